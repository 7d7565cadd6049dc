/- The statement TradeBounds of chapter 8 (trade) holds of the given program: if a book exceeds no limit, no book that Hold, Back, Retime or Serve return does; what Back leaves are the movements before the day; Retime to the minute that a slot has changes nothing, if the book exceeds no limit; and what was held can be handed back from its first day on. No conditions. -/
import Derived.Test.YtahmdjadnlpjoaaGreatRows
import Derived.Test.YtahmdjadnlpjoaaGreatH4
set_option linter.all false
set_option maxHeartbeats 8000000
set_option maxRecDepth 100000
namespace Go.Proofs.YtahmdjadnlpjoaaGreat
open Go.RowKit
theorem ybd {ls:List Lim} {m:List Mov}:yK ls m=[]↔∀ l ∈ ls,∀ b ∈ ya l,zbs l m b<=l.most:=by
 unfold yK yaa
 constructor
 .intro h l hm b hb
  obtain ⟨i,hi⟩:=List.mem_iff_getElem?.1 hm
  have hlt:=(List.getElem?_eq_some_iff.1 hi).1
  have h1:=List.flatMap_eq_nil_iff.1 h i (List.mem_range.2 hlt)
  rw [ycj,hi] at h1
  have h2:=List.flatMap_eq_nil_iff.1 h1 b hb
  rw [yR] at h2
  split at h2
  .cases h2
  .omega
 .intro h
  refine List.flatMap_eq_nil_iff.2 λi _=>?_
  unfold ycj;split
  .rename_i l hi
   refine List.flatMap_eq_nil_iff.2 λb hb=>?_
   have:=h l (List.mem_of_getElem? hi) b hb
   rw [yR,if_neg (by omega)]
  .rfl
theorem yci {ls:List Lim} {m m':List Mov} (h:∀ l ∈ ls,∀ b,zbs l m' b<=zbs l m b) (he:yK ls m=[]):yK ls m'=[]:=
 ybd.2 λl hl b hb=>by have:=ybd.1 he l hl b hb;have:=h l hl b;omega
theorem ydY {l:Lim} (h:0<=l.len) (f:Mov->Bool) (m:List Mov) (b:Int):zbs l (m.filter f) b<=zbs l m b:=by
 rw [yb h,yb h]
 have:=((List.filter_sublist (l:=m) (p:=f)).filter (inW l b)).length_le
 omega
def flM (L:List Slt):List Mov:=L.flatMap λs=>movsL s.req
theorem yD (A B:List Slt):flM (A++B)=flM A++flM B:=by simp [flM]
theorem yJ (s:Slt) (B:List Slt):flM (s::B)=movsL s.req++flM B:=by simp [flM]
theorem yc0 {α:Type} {lt:α->α->Bool} {L:List α}:srt lt L->isort lt L=L:=by
 induction L using rev_ind with
 | h0=>intro _;rfl
 | hs L x ih=>
  intro h
  obtain ⟨h1,_,h3⟩:=List.pairwise_append.1 h
  rw [isort_snoc,ih h1]
  have:=insL_at (lt:=lt) (x:=x) (U:=L) (V:=[]) (λu hu=>h3 u hu x (by simp)) (by simp)
  rwa [List.append_nil] at this
theorem y8 {α:Type} {lt:α->α->Bool} (hs:SW lt) (f:α->Bool) (x:α):∀ {L:List α},srt lt L->(insL lt x L).filter f=if f x=true then insL lt x (L.filter f) else L.filter f
 | [],_=>by
  by_cases k:f x=true
  .rw [if_pos k];simp [insL,k]
  .rw [if_neg k];simp [insL,k]
 | a::r,h=>by
  obtain ⟨h1,h2⟩:=List.pairwise_cons.1 h
  rw [insL]
  split
  .rename_i q
   rw [List.filter_cons]
   by_cases k:f x=true
   .rw [if_pos k,if_pos k]
    refine (insL_at (U:=[]) (V:=(a::r).filter f) (by simp) λv hv=>?_).symm
    have hm:=(List.mem_filter.1 (List.mem_of_mem_head? hv)).1
    cases hxv:lt x v
    .have hva:lt v a=false:=by
      rcases List.mem_cons.1 hm with rfl|hm
      .exact irr hs _
      .exact h1 v hm
     rw [hs.nt _ _ _ hxv hva] at q;cases q
    .rfl
   .rw [if_neg k,if_neg k]
  .rename_i q
   have ih:=y8 hs f x h2
   by_cases ka:f a=true
   .rw [List.filter_cons,if_pos ka,ih,List.filter_cons,if_pos ka]
    by_cases k:f x=true
    .rw [if_pos k,if_pos k,insL,if_neg q]
    .rw [if_neg k,if_neg k]
   .rw [List.filter_cons,if_neg ka,ih,List.filter_cons,if_neg ka]
theorem yaS {α:Type} {lt:α->α->Bool} (hs:SW lt) (f:α->Bool) (L:List α):(isort lt L).filter f=isort lt (L.filter f):=by
 induction L using rev_ind with
 | h0=>rfl
 | hs L x ih=>
  rw [isort_snoc,y8 hs f x (isort_srt hs L),ih,List.filter_append]
  by_cases k:f x=true
  .rw [if_pos k,List.filter_cons,if_pos k,List.filter_nil,isort_snoc]
  .rw [if_neg k,List.filter_cons,if_neg k,List.filter_nil,List.append_nil]
theorem ybb (A B:List Mov):mergeM befM (isort befM A) B=isort befM (A++B):=by
 rw [mergeM,foldM_isort befM_sw,isort_app befM_sw,yc0 (isort_srt befM_sw A),<-isort_app befM_sw]
theorem ybv:∀ (L:List Slt) (F:List Mov),L.foldl (λout s=>mergeM befM out (movsL s.req)) (isort befM F)=isort befM (F++flM L)
 | [],F=>by simp [flM]
 | s::L,F=>by rw [List.foldl_cons,ybb,ybv L,yJ,List.append_assoc]
theorem yau (L:List Slt):mvS L=isort befM (flM L):=ybv L []
theorem ycT (L:List Slt):(mvS L).Perm (flM L):=by
 rw [yau,<-foldM_isort befM_sw]
 have:=foldl_perm befM (flM L) []
 rwa [List.nil_append] at this
theorem yaB {l:Lim} (h:0<=l.len) (L:List Slt) (b:Int):zbs l (mvS L) b=zbs l (flM L) b:=ybz h (ycT L) b
theorem ybk {b:Bk} {i:Nat} {s:Slt} (hs:b.slots[i]?=some s):b.slots=b.slots.take i++s::b.slots.drop (i+1):=by
 obtain ⟨hl,e⟩:=List.getElem?_eq_some_iff.1 hs
 conv=>lhs;rw [<-List.take_append_drop i b.slots,List.drop_eq_getElem_cons hl,e]
theorem yaL {b:Bk} {i:Nat} {s:Slt} (hs:b.slots[i]?=some s) (t:Slt):b.slots.set i t=b.slots.take i++t::b.slots.drop (i+1):=by
 rw [List.set_eq_take_append_cons_drop,if_pos (List.getElem?_eq_some_iff.1 hs).1]
theorem ycn {l:Lim} (h:0<=l.len) {b:Bk} {i:Nat} {s:Slt} (hs:b.slots[i]?=some s) (w:Int):zbs l (mvS b.slots) w=zbs l (mvS (yaI b i)) w+zbs l (movsL s.req) w:=by
 rw [yaB h,yaB h,ybk hs,yD,yJ,yE h,yE h,yaI,yD,yE h]
 omega
theorem ydZ {l:Lim} (h:0<=l.len) {b:Bk} {i:Nat} {s:Slt} (hs:b.slots[i]?=some s) (t:Slt) (w:Int):zbs l (mvS (b.slots.set i t)) w=zbs l (mvS (yaI b i)) w+zbs l (movsL t.req) w:=by
 rw [yaB h,yaB h,yaL hs,yD,yJ,yE h,yE h,yaI,yD,yE h]
 omega
theorem yi {ls:List Lim} (hl:z3 ls=0):∀ l ∈ ls,0<=l.len:=λl hm=>by have:=chkLim_0 ((chkLims_0 hl).2 l hm);omega
theorem cnt_nn {l:Lim} (h:0<=l.len) (m:List Mov) (b:Int):0<=zbs l m b:=by rw [yb h];omega
theorem room_1 {ls:List Lim} {m:List Mov} {o:Mov} (hl:∀ l ∈ ls,zaS l=0):1<=roomL ls m o↔∀ l ∈ ls,∀ w ∈ ya l,inW l w o=true->zbs l m w < l.most:=by
 have h:=yM ls (arW ls m o) 999999999
 have e1:roomL ls m o=(arW ls m o).foldl (roomStep ls) 999999999:=rfl
 rw [<-e1] at h
 constructor
 .intro hc l hm b hb hw
  obtain ⟨i,hi⟩:=List.mem_iff_getElem?.1 hm
  have h2:=h.1.2 _ (ydl (m:=m) hi (hl l hm) hb hw)
  rw [show mostAt ls (⟨i,b,zbs l m b⟩:Win).lim=l.most by simp only [mostAt,Int.toNat_natCast,hi]] at h2
  simp only at h2
  omega
 .intro h2
  rcases h.2 with h3|⟨w,hw,h3⟩
  .omega
  .obtain ⟨i,l,e2,hi,e3,e4,e5,e6,e,_,hb⟩:=arW_at hw
   have hm:=List.mem_of_getElem? hi
   have:=h2 l hm w.beg (win_of (hl l hm) hb) (by simp only [inW,e4,Bool.true_and,Bool.and_eq_true,decide_eq_true_eq];exact ⟨e5,e6⟩)
   rw [show mostAt ls w.lim=l.most by simp only [mostAt,e2,Int.toNat_natCast,hi],e3] at h3
   omega
theorem fits_1 {ls:List Lim} {m:List Mov} {r:Req} (hl:∀ l ∈ ls,zaS l=0):fitsB ls m r=true↔∀ o ∈ movsL r,∀ l ∈ ls,∀ w ∈ ya l,inW l w o=true->zbs l m w < l.most:=by
 rw [fitsB,List.all_eq_true]
 refine forall_congr' λo=>forall_congr' λ_=>?_
 rw [<-room_1 hl,Bool.not_eq_true',decide_eq_false_iff_not];omega
theorem ycd {l:List Lim} {b:Bk} {q:Req} (h:holdC l b q=0):mvS (holdB l b q).slots=mergeM befM (mvS b.slots) (movsL q):=by
 rw [holdB,if_pos h];exact yav _ _
theorem yc2 {l:List Lim} {b:Bk} (hb:zG b=0) (hl:z3 l=0) {q:Req} (h:holdC l b q=0) (he:yK l (mvS b.slots)=[]):yK l (mvS (holdB l b q).slots)=[]:=by
 obtain ⟨h1,_,_,h4⟩:=yQ h
 rw [yb9 hb,yay hl (yaE hb).2.1 (yw h1)] at h4
 rw [ycd h,yaA (chkLims_0 hl).2 h4,he]
def lfB (n:ByteArray) (d:Int) (y:Mov):Bool:=!decide (y.name=n) || decide (y.moment < 1440*d)
theorem ycU {r:Req} (hr:chkReq r=0) {d:Int} (hd:d<=r.per.to):movsL { r with per:=bckP r.per d }=(movsL r).filter (lfB r.name d):=by
 obtain ⟨_,m1,m2⟩:=chkReq_0 hr
 have e:∀ L:List Int,((ltL d L).map (movOf r))=(L.map (movOf r)).filter (lfB r.name d):=by
  intro L
  induction L with
  | nil=>rfl
  | cons x L ih=>
   have e1:ltL d (x::L)=ltI d x++ltL d L:=by simp [ltL]
   have e2:lfB r.name d (movOf r x)=decide (x < d):=by
    have em:(movOf r x).moment=1440*x+r.minute:=rfl
    have en:(movOf r x).name=r.name:=rfl
    rw [lfB,en,decide_eq_true (show r.name=r.name from rfl),Bool.not_true,Bool.false_or]
    by_cases k:x < d
    .rw [decide_eq_true k,decide_eq_true (by rw [em];omega)]
    .rw [decide_eq_false k,decide_eq_false (by rw [em];omega)]
   rw [e1,List.map_append,ih,List.map_cons,List.filter_cons,e2,ltI]
   by_cases k:x < d
   .rw [if_pos k,if_pos (decide_eq_true k)];rfl
   .rw [if_neg k,if_neg (by simp [k])];rfl
 have e3:movsL { r with per:=bckP r.per d }=(zY (bckP r.per d)).map (movOf r):=rfl
 rw [e3,<-yac _ _ hd,e,movsL]
theorem yaj {b:Bk} (hb:zG b=0) {n:ByteArray} {i:Nat} {s:Slt} (hs:b.slots[i]?=some s) (hn:s.req.name=n) {L:List Slt} (hL:∀ t ∈ L,∃ j,j≠i/\b.slots[j]?=some t) (d:Int):(flM L).filter (lfB n d)=flM L:=by
 refine List.filter_eq_self.2 λy hy=>?_
 obtain ⟨t,ht,hy⟩:=List.mem_flatMap.1 hy
 obtain ⟨e,_,rfl⟩:=ybw hy
 obtain ⟨j,hj,hjt⟩:=hL t ht
 have hne:¬t.req.name=n:=λk=>hj (by
  have i1:=yn hb hjt
  have i2:=yn hb hs
  rw [k] at i1;rw [hn] at i2;omega)
 have en:(movOf t.req e).name=t.req.name:=rfl
 rw [lfB,en,decide_eq_false hne];rfl
theorem ycx {α:Type} {L:List α} {i:Nat} {t:α} (h:t ∈ L.take i):∃ j,j≠i/\L[j]?=some t:=by
 obtain ⟨j,hj⟩:=List.mem_iff_getElem?.1 h
 have hlt:=(List.getElem?_eq_some_iff.1 hj).1
 rw [List.length_take] at hlt
 rw [List.getElem?_take_of_lt (by omega)] at hj
 exact ⟨j,by omega,hj⟩
theorem yc7 {α:Type} {L:List α} {i:Nat} {t:α} (h:t ∈ L.drop (i+1)):∃ j,j≠i/\L[j]?=some t:=by
 obtain ⟨j,hj⟩:=List.mem_iff_getElem?.1 h
 rw [List.getElem?_drop] at hj
 exact ⟨i+1+j,by omega,hj⟩
theorem ybC {b:Bk} (hb:zG b=0) {c n:ByteArray} {d:Int} (h:bckC b c n d=0):mvS (bckB b c n d).slots=(mvS b.slots).filter (lfB n d):=by
 obtain ⟨h1,h2,h3⟩:=yae h
 have hs:=(za8 h1).2.1
 have hq:=ym hb (List.mem_of_getElem? hs)
 have hnm:=yaM (za8 h1).1
 have hD:=yaG (b:=b) (n:=n) (d:=d) (chkReq_0 hq).1 h3
 have hm:movsL { (zo b n).req with per:=bckP (zo b n).req.per d }=(movsL (zo b n).req).filter (lfB n d):=(ycU hq h3).trans (by rw [hnm])
 have eA:=yaj hb hs hnm (L:=b.slots.take (zA b n)) (λt ht=>ycx ht) d
 have eB:=yaj hb hs hnm (L:=b.slots.drop (zA b n+1)) (λt ht=>yc7 ht) d
 rw [yau,yau,yaS befM_sw]
 congr 1
 conv=>rhs;rw [ybk hs]
 rw [yD,yJ,List.filter_append,List.filter_append,eA,eB,<-hm,<-yb1 hb,if_pos h,bkY]
 split
 .rename_i k
  have e0:movsL { (zo b n).req with per:=bckP (zo b n).req.per d }=[]:=by
   have e3:movsL { (zo b n).req with per:=bckP (zo b n).req.per d }=(zY (bckP (zo b n).req.per d)).map (movOf (zo b n).req):=rfl
   rw [e3,<-yac _ _ h3,k];rfl
  rw [e0,List.nil_append]
  exact yD _ _
 .rw [chgB];simp only
  rw [yaL hs,yD,yJ];rfl
theorem yd5 {l:List Lim} (hl:z3 l=0) {b:Bk} (hb:zG b=0) {c n:ByteArray} {d:Int} (h:bckC b c n d=0) (he:yK l (mvS b.slots)=[]):yK l (mvS (bckB b c n d).slots)=[]:=by
 rw [ybC hb h]
 exact yci (λx hx w=>ydY (yi hl x hx) _ _ w) he
theorem rt_exc {l:List Lim} (hl:z3 l=0) {b:Bk} (hb:zG b=0) {c n:ByteArray} {m:Int} (h:rtC l b c n m=0) (he:yK l (mvS b.slots)=[]):yK l (mvS (rtB l b c n m).slots)=[]:=by
 obtain ⟨h1,h2,h3⟩:=ybl h
 obtain ⟨o1,o2,_,_⟩:=za8 h1
 obtain ⟨m1,m2,_⟩:=ybA hb (slot_found o1).2.2
 have hq:=ym hb (List.mem_of_getElem? o2)
 rw [m1,yay hl m2 (yam hq h2)] at h3
 have e1:yK l (mvS (yaI b (zA b n)))=[]:=yci (λx hx w=>by
  rw [ycn (yi hl x hx) o2 w]
  have:=cnt_nn (yi hl x hx) (movsL (zo b n).req) w;omega) he
 have e2:=yaA (m:=mvS (yaI b (zA b n))) (chkLims_0 hl).2 h3
 rw [e1] at e2
 refine yci (λx hx w=>?_) e2
 rw [rtB,if_pos h,chgB];simp only
 rw [ydZ (yi hl x hx) o2,yaY (yi hl x hx)]
 exact Int.le_refl _
theorem ydu {l:List Lim} (hl:z3 l=0) {b:Bk} (hb:zG b=0) (he:yK l (mvS b.slots)=[]) {i:Nat} {s:Slt} (hs:b.slots[i]?=some s):rtC l b s.holder s.req.name s.req.minute=0/\rtB l b s.holder s.req.name s.req.minute=b:=by
 obtain ⟨i1,i2,i3⟩:=ybV hb hs
 have hv:=ya2 hb (List.mem_of_getElem? hs)
 have hq:=ym hb (List.mem_of_getElem? hs)
 obtain ⟨m1,m2,_⟩:=ybA hb (List.getElem?_eq_some_iff.1 hs).1
 have hm:rng s.req.minute 0 1439=0:=rng_0.2 (chkReq_0 hq).2
 have hO:ownE b s.holder s.req.name (rng s.req.minute 0 1439)=0:=by
  refine zq.2 ⟨fE0 hv (zaH s.holder) (by simp),zq.2 ⟨by rw [fndE,if_neg i3],zq.2 ⟨hm,zq.2 ⟨by rw [i2];exact if_pos rfl,rfl⟩⟩⟩⟩
 have hE:rtE l b s.req.name (zo b s.req.name) s.req.minute=0:=by
  rw [rtE,yn hb hs,m1,i2,yay hl m2 (yam hq hm)]
  refine if_pos ((fits_1 (chkLims_0 hl).2).2 λo ho x hx w hw hin=>?_)
  have h1:=ybd.1 he x hx w hw
  rw [ycn (yi hl x hx) hs w] at h1
  have h2:1<=zbs x (movsL s.req) w:=by
   rw [yb (yi hl x hx)]
   have:0 < ((movsL s.req).filter (inW x w)).length:=List.length_pos_of_mem (List.mem_filter.2 ⟨ho,hin⟩)
   omega
  omega
 have hC:rtC l b s.holder s.req.name s.req.minute=0:=zq.2 ⟨hO,zq.2 ⟨hE,rfl⟩⟩
 refine ⟨hC,?_⟩
 rw [rtB,if_pos hC,i2,chgB,i1]
 have e:b.slots.set i (rtS s s.req.minute)=b.slots:=ycA hs
 rw [e]
theorem yds {l:List Lim} (hl:z3 l=0) {b:Bk} (hb:zG b=0) (he:yK l (mvS b.slots)=[]):∀ k,k<=b.wait.length->yK l (mvS (yB l b k))=[]:=by
 intro k
 induction k with
 | zero=>intro _;simpa [yB,srvK,srv0] using he
 | succ k ih=>
  intro hk
  have ih:=ih (by omega)
  obtain ⟨w,hw⟩:=zn (i:=k) (l:=b.wait) (by omega)
  obtain ⟨i1,i2,i3⟩:=ya4 (l:=l) hb k (by omega)
  obtain ⟨v1,_⟩:=srv_ok (l:=l) hb k (by omega)
  have hnx:=srvK_next (l:=l) hw
  rw [srvN] at hnx
  by_cases hno:srvNo l b.slots.length (srvK l b k) w
  .rw [if_pos hno] at hnx
   have e:yB l b (k+1)=yB l b k:=by rw [yB,yB,hnx]
   rw [e];exact ih
  .rw [if_neg hno] at hnx
   have e:yB l b (k+1)=yB l b k++[newS w.req]:=by rw [yB,yB,hnx];simp
   have hf:fitR l (mvS (yB l b k)) w.req=true:=by
    rw [<-i2]
    cases hf:fitR l (srvK l b k).M w.req
    .exact absurd (.inr hf) hno
    .rfl
   obtain ⟨_,m2,_⟩:=ybW (b:=⟨yB l b k,[]⟩) v1 i3
   rw [yay hl m2 (yw (ybS hb hw))] at hf
   rw [e,yav]
   exact (yaA (chkLims_0 hl).2 hf).trans ih
theorem ybx {l:List Lim} {b:Bk} (hb:zG b=0) {q:Req} (h:holdC l b q=0):bckC (holdB l b q) q.carrier q.name q.per.fro=0/\bckB (holdB l b q) q.carrier q.name q.per.fro=b:=by
 have hv:=yP hb h
 obtain ⟨h1,_,_,_⟩:=yQ h
 obtain ⟨_,p2,p3,p4,p5,p6⟩:=yx h1
 have p7:=zaX p5
 have e:holdB l b q=⟨b.slots++[newS q],b.wait⟩:=by rw [holdB,if_pos h]
 have hs:(holdB l b q).slots[b.slots.length]?=some (newS q):=by rw [e];simp
 obtain ⟨i1,i2,i3⟩:=ybV hv hs
 have en:(newS q).req.name=q.name:=rfl
 rw [en] at i1 i2 i3
 have hO:ownE (holdB l b q) q.carrier q.name (rng q.per.fro 0 99999)=0:=
  zq.2 ⟨p3,zq.2 ⟨by rw [fndE,if_neg i3],zq.2 ⟨rng_0.2 ⟨p7.1,by omega⟩,zq.2 ⟨by rw [i2];exact if_pos rfl,rfl⟩⟩⟩⟩
 have hE:bckE (zo (holdB l b q) q.name) q.per.fro=0:=by
  rw [i2,bckE];exact if_neg (show ¬q.per.to < q.per.fro by omega)
 have hC:bckC (holdB l b q) q.carrier q.name q.per.fro=0:=zq.2 ⟨hO,zq.2 ⟨hE,rfl⟩⟩
 refine ⟨hC,?_⟩
 have hd:ltL q.per.fro (zY (zo (holdB l b q) q.name).req.per)=[]:=by
  rw [i2]
  refine List.flatMap_eq_nil_iff.2 λx hx=>?_
  have:=daysL_mem (p:=q.per) hx
  rw [ltI,if_neg (by omega)]
 rw [<-yb1 hv,if_pos hC,bkY,if_pos hd,i1,e]
 simp
abbrev tmC (x:Tmg):List LV:=[.p (.s x.req.name),.p (.s x.req.carrier),.p (.s x.req.kind),.p (.s x.req.term),.p (.s x.req.partner),.p (.s x.req.link),.p (.i .i64 x.req.per.fro),.p (.i .i64 x.req.per.to),.p (.i .i64 x.req.per.days),.p (.i .i64 x.req.minute),.p (.i .i64 x.req.seats),.p (.i .i64 x.req.size),.p (.i .i64 x.req.noise),.p (.s x.carrier),.p (.s x.slot),.p (.i .i64 x.day),.p (.i .i64 x.minute)]
theorem ycS {n:ByteArray} {d:Int} {M:List Mov} {k:Nat} {y:Mov} (h:M[k]?=some y):(M.take (k+1)).filter (lfB n d)=(M.take k).filter (lfB n d)++if lfB n d y=true then [y] else []:=by
 rw [zan h,List.filter_append,List.filter_cons,List.filter_nil]
theorem ycL (M:List Mov) (x:Tmg) (hn:M.length<=1000000) (hd:0<=x.day) (hd2:x.day<=99999):Pure Tryz.prog 78 [.sl 7 ((M.filter (lfB x.slot x.day)).map Mov.pv),.sl 7 (M.map Mov.pv),x.pv] (.b true):=by
 refine zf (cF Tryz.func78 Tryz.f78.eq_1) (by simp) λhw X hX=>?_
 repeat' first|refine gC ?_ ?_<;>intro hc<;>try contradiction|refine gG ?_|show AK _;intro K H|refine H _ _ ?_;clear H K|refine gJ ?_;try exact trivial|omega
 refine zaO 100 180 7 [(0,.p (.sl 7 ((M.filter (lfB x.slot x.day)).map Mov.pv))),(5,.lp 5 0),(7,.row 100 0),(10,.p (.sl 7 (M.map Mov.pv))),(11,.p (.i .i64 M.length)),(12,.p (.i .i64 0))] [(5,.box (tmC x) false)] ?_ ?_
 .simp only [Own,zaL,zaB,zbt,zay,qS,seval]<;>simp
 refine zk (κ:=Nat) (λk=>⟨[(0,.p (.sl 7 ((M.filter (lfB x.slot x.day)).map Mov.pv))),(5,.lp 5 0),(7,.row 100 ((M.take k).filter (lfB x.slot x.day)).length),(10,.p (.sl 7 (M.map Mov.pv))),(11,.p (.i .i64 M.length)),(12,.p (.i .i64 k))],[(5,.box (tmC x) false),(100,.row 180 7 (((M.take k).filter (lfB x.slot x.day)).map Mov.pv) false)],[],false⟩) (λk=>k<=M.length) (λk=>M.length - k) 0 ?_ ?_ ?_
 .exact sS
 .simp
 .intro k hk
  have hl:((M.take k).filter (lfB x.slot x.day)).length<=k:=by
   have:=List.length_filter_le (lfB x.slot x.day) (M.take k)
   rw [List.length_take] at this;omega
  repeat first|refine gG ?_|show AK _;intro K H|refine H _ _ ?_;clear H K|refine gJ ?_;try exact trivial|omega
  (refine gC ?_ ?_<;>intro hc<;>try contradiction)
  .obtain ⟨y,hy⟩:=zn (i:=k) (l:=M) (by omega)
   have hnx:=ycS (n:=x.slot) (d:=x.day) hy
   by_cases q1:y.name=x.slot
   .by_cases q2:y.moment < 1440*x.day
    .have q2':=eq_true q2
     have e:lfB x.slot x.day y=true:=by simp [lfB,q2]
     rw [if_pos e] at hnx
     have qe:=aI qR (aI @hy (aI @q1 (aI @q2' (aI @zbb yDT))));repeat' first|refine gC ?_ ?_<;>intro hc<;>try contradiction|refine gG ?_|show AK _;intro K H|refine H _ _ ?_;clear H K|refine gJ ?_;try exact trivial|omega
     all_goals exact ⟨k+1,by omega,by omega,⟨by rw [hnx];simp,by simp⟩,by rw [hnx];simp [<-q1]⟩
    .have q2':=eq_false q2
     have e:¬lfB x.slot x.day y=true:=by simp [lfB,q1,q2]
     rw [if_neg e,List.append_nil] at hnx
     have qe:=aI qR (aI @hy (aI @q1 (aI @q2' (aI @zbb yDT))));repeat' first|refine gC ?_ ?_<;>intro hc<;>try contradiction|refine gG ?_|show AK _;intro K H|refine H _ _ ?_;clear H K|refine gJ ?_;try exact trivial|omega
     all_goals exact ⟨k+1,by omega,by omega,⟨by rw [hnx],by simp⟩,by rw [hnx]⟩
   .have q1':=eq_false q1
    have e:lfB x.slot x.day y=true:=by simp [lfB,q1]
    rw [if_pos e] at hnx
    have qe:=aI qR (aI @hy (aI @q1' yDT));repeat' first|refine gC ?_ ?_<;>intro hc<;>try contradiction|refine gG ?_|show AK _;intro K H|refine H _ _ ?_;clear H K|refine gJ ?_;try exact trivial|omega
    all_goals exact ⟨k+1,by omega,by omega,⟨by rw [hnx];simp,by simp⟩,by rw [hnx];simp⟩
  .have ek:k=M.length:=by omega
   subst ek
   rw [List.take_length]
   have qe:=aI qR @zaf;repeat' first|refine gC ?_ ?_<;>intro hc<;>try contradiction|refine zam (pure26 (M.filter (lfB x.slot x.day))) ?_|refine gG ?_|show AK _;intro K H|refine H _ _ ?_;clear H K|refine gJ ?_;try exact trivial|omega
   all_goals exact .refl _
structure BndK (l:List Lim) (b y:Bk) (n:Nat) (x:Tmg):Prop where
 v:zG y=0
 c:y.slots.length<=b.slots.length+b.wait.length+1
 e:yK l (mvS b.slots)=[]->yK l (mvS y.slots)=[]
 f:n=1->(mvS y.slots=(mvS b.slots).filter (lfB x.slot x.day)/\0<=x.day/\x.day<=99999)
theorem ycQ (l:List Lim) (b:Bk) (x:Tmg) (hn:l.length*112<=140737488355328):Pure Tryz.prog 12 [.sl 11 (l.map Lim.pv),b.pv,x.pv] (.b true):=by
 refine zf (cF Tryz.func12 Tryz.f12.eq_1) (by simp) λhw X hX=>?_
 have h15:=ycP l b hn
 have h26:=ybq l hn
 have h21:=ycO l hn
 have h23:=pure23 l
 have hC:=ybr b
 by_cases hs:(yT l 3 && ycw b)=true
 .rw [hs] at h15
  by_cases hq:shortB x.req=true
  .by_cases hc:(40:Int) < x.carrier.size
   .have hc':=eq_true hc
    have qe:=aI qR (aI @hq (aI @hc' (aI @decide_true @Bool.not_true)));repeat' first|refine gC ?_ ?_<;>intro hc<;>try contradiction|refine za h15 ?_|refine zN (λ_=>yg x.req) ?_|refine zN (λ_=>h26) ?_|refine zN (λ_=>h23) ?_|refine zN (λ_=>hC) ?_|refine za pure1017 ?_|refine gG ?_|show AK _;intro K H|refine H _ _ ?_;clear H K|refine gJ ?_;try exact trivial|omega
    all_goals exact .refl _
   by_cases hsl:(40:Int) < x.slot.size
   .have hc':=eq_false hc
    have hs':=eq_true hsl
    have qe:=aI qR (aI @hq (aI @hc' (aI @hs' yDT)));repeat' first|refine gC ?_ ?_<;>intro hc<;>try contradiction|refine za h15 ?_|refine zN (λ_=>yg x.req) ?_|refine zN (λ_=>h26) ?_|refine zN (λ_=>h23) ?_|refine zN (λ_=>hC) ?_|refine za pure1017 ?_|refine gG ?_|show AK _;intro K H|refine H _ _ ?_;clear H K|refine gJ ?_;try exact trivial|omega
    all_goals exact .refl _
   have hc':=eq_false hc
   have hs':=eq_false hsl
   rw [Bool.and_eq_true] at hs
   obtain ⟨hok,hl1,hl2⟩:=sh_ok hs.2
   by_cases hkl:z3 l=0
   .rw [hkl] at h23
    by_cases hkb:zG b=0
    .rw [hkb] at hC
     have hF:zg [z3 l,zG b]=0:=zq.2 ⟨hkl,zq.2 ⟨hkb,rfl⟩⟩
     have hlb:lbE l b=0:=hF
     have hH:=pure1042 l b x.req (λ_=>hok)
     rw [ydb hF,ybG hF] at hH
     have hB:=pure1050 b x.carrier x.slot x.day (λ_=>hok)
     rw [bkTo_ok hkb bckB_0] at hB
     have hR:=ybn l b x.carrier x.slot x.minute (λ_=>hok)
     rw [yaF hF ydw] at hR
     have hV:=pure1020 l b (λ_=>hok)
     have v1:ServB l b=srvB l b:=if_pos hlb
     have v2:ServW l b=srvW l b:=if_pos hlb
     rw [v1,v2,hlb] at hV
     obtain ⟨m1,m2,m3⟩:=yaE hkb
     have hlm:=chkLims_0 hkl
     have h68:=ycM b.slots (λs hs=>ym hkb hs) (λs hs=>by have:=(yaw (ym hkb hs)).2;omega) (by omega)
     have h59:=pure59 l (mvS b.slots) hlm.1 hlm.2 (by omega)
     have hsl64:=chkBk_len hkb
     have hwl:b.wait.length<=64:=hsl64.2
     have k0:holdC l b x.req=0->BndK l b (holdB l b x.req) 0 x:=λq=>⟨yP hkb q,by rw [holdB,if_pos q];simp only [List.length_append,List.length_singleton];omega,yc2 hkb hkl q,λk=>by omega⟩
     have k1:bckC b x.carrier x.slot x.day=0->BndK l b (bckB b x.carrier x.slot x.day) 1 x:=λq=>⟨(ya3 hkb q).1,by have:=(ya3 hkb q).2;omega,yd5 hkl hkb q,λ_=>⟨ybC hkb q,rng_0.1 (yae q).2.1⟩⟩
     have k2:rtC l b x.carrier x.slot x.minute=0->BndK l b (rtB l b x.carrier x.slot x.minute) 2 x:=λq=>⟨ycE hkb q,by rw [rtB,if_pos q,chgB];simp only [List.length_set];omega,rt_exc hkl hkb q,λk=>by omega⟩
     have k3:BndK l b (srvB l b) 3 x:=⟨ybT hkb,by have:=srvK_len (l:=l) (b:=b) (Nat.le_refl b.wait.length);simp only [srvB,List.length_append,List.length_map];omega,λq=>yds hkl hkb q b.wait.length (Nat.le_refl _),λk=>by omega⟩
     have kb:holdC l b x.req=0->bckC (holdB l b x.req) x.req.carrier x.req.name x.req.per.fro=0/\bckB (holdB l b x.req) x.req.carrier x.req.name x.req.per.fro=b/\zG (holdB l b x.req)=0:=λq=>⟨(ybx hkb q).1,(ybx hkb q).2,yP hkb q⟩
     generalize holdB l b x.req=y0 at hH k0 kb
     generalize holdC l b x.req=e0 at hH k0 kb
     generalize bckB b x.carrier x.slot x.day=y1 at hB k1
     generalize bckC b x.carrier x.slot x.day=e1 at hB k1
     generalize rtB l b x.carrier x.slot x.minute=y2 at hR k2
     generalize rtC l b x.carrier x.slot x.minute=e2 at hR k2
     generalize srvB l b=y3 at hV k3
     generalize srvW l b=N3 at hV
     obtain ⟨LG,hLG,hLF⟩:∃ LG:Bool,decide (((yK l (mvS b.slots)).length:Int)=0)=LG/\(LG=true->yK l (mvS b.slots)=[]):=⟨_,rfl,λq=>List.eq_nil_of_length_eq_zero (by have:=of_decide_eq_true q;omega)⟩
     obtain ⟨C,eC,hCl⟩:∃ C:List PV,C=[.sl 16 (y0.slots.map Slt.pv),.sl 14 (y0.wait.map Wsh.pv),.sl 16 (y1.slots.map Slt.pv),.sl 14 (y1.wait.map Wsh.pv),.sl 16 (y2.slots.map Slt.pv),.sl 14 (y2.wait.map Wsh.pv),.sl 16 (y3.slots.map Slt.pv),.sl 14 (y3.wait.map Wsh.pv)]/\C.length=8:=⟨_,rfl,rfl⟩
     obtain ⟨D,eD,hDl⟩:∃ D:List LV,D=[.p (.i .i64 e0),.p (.i .i64 e1),.p (.i .i64 e2),.p (.i .i64 0)]/\D.length=4:=⟨_,rfl,rfl⟩
     have hDs:∀ look,scPs look D:=λlook=>by rw [eD];simp [scPs,scP]
     have hCs:∀ look,scPs look (C.map .p):=λlook=>by rw [eC];simp [scPs,scP]
     have hK:∀ n,n < 4->∃ (y:Bk) (e:Int),(C.drop (n*2)).take 2=[.sl 16 (y.slots.map Slt.pv),.sl 14 (y.wait.map Wsh.pv)]/\D[n]?=some (.p (.i .i64 e))/\(e=0->BndK l b y n x):=λn hn=>by
      rw [eC,eD]
      match n,hn with
      | 0,_=>exact ⟨y0,e0,rfl,rfl,k0⟩
      | 1,_=>exact ⟨y1,e1,rfl,rfl,k1⟩
      | 2,_=>exact ⟨y2,e2,rfl,rfl,k2⟩
      | 3,_=>exact ⟨y3,0,rfl,rfl,λ_=>k3⟩
     have n1:Int.toNat 1=1:=rfl
     have n2:Int.toNat 2=2:=rfl
     have n3:Int.toNat 3=3:=rfl
     have qe:=aI qR (aI @hq (aI @hc' (aI @hs' (aI @hLG (aI @n1 (aI @n2 (aI @n3 (aI @toN0 (aI @zbb yDT)))))))));repeat' first|refine gC ?_ ?_<;>intro hc<;>try contradiction|refine za h15 ?_|refine zN (λ_=>yg x.req) ?_|refine zN (λ_=>h26) ?_|refine zN (λ_=>h23) ?_|refine zN (λ_=>hC) ?_|refine za h26 ?_|refine za h68 ?_|refine za h59 ?_|refine za h21 ?_|refine za (ybs b hok) ?_|refine za hH ?_|refine za hB ?_|refine za hR ?_|refine za hV ?_|refine gG ?_|show AK _;intro K H|refine H _ _ ?_;clear H K|refine gJ ?_;try exact trivial|omega
     refine zk (κ:=Nat) (λn=>⟨[(0,.p (.sl 11 (l.map Lim.pv))),(4,.lp 4 0),(5,.lp 5 0),(7,.p (.b LG)),(8,.lp 8 0),(9,.lp 9 0),(117,.p (.agg C)),(118,.p (.i .i64 n))],[(4,.box [.p (.sl 16 (b.slots.map Slt.pv)),.p (.sl 14 (b.wait.map Wsh.pv))] false),(5,.box (tmC x) false),(8,.box (C.map .p) false),(9,.box D false)],[],false⟩) (λn=>n<=4) (λn=>4 - n) 0 ?_ ?_ ?_
     .rw [eC,eD];simp only [qS,seval]<;>simp
     .simp
     .intro n hn
      repeat first|refine gG ?_|show AK _;intro K H|refine H _ _ ?_;clear H K|refine gJ ?_;try exact trivial|omega
      (refine gC ?_ ?_<;>intro hc<;>try contradiction)
      .obtain ⟨y,e,c1,d1,hke⟩:=hK n (by omega)
       by_cases he:e=0
       .have hy:=hke he
        have he':=eq_true he
        have hyo:=ybj hy.v
        obtain ⟨w1,w2,w3⟩:=yaE hy.v
        have hM2:=pure1043 y
        rw [hy.v,w1] at hM2
        have hC3:=ybr y
        rw [hy.v] at hC3
        have lS:=eq_false (show ¬((b.slots.length:Int)+b.wait.length+1 < y.slots.length) by have:=hy.c;omega)
        have hFi:LG=true->ydP l (mvS y.slots)=7:=λq=>by
         rw [ydP,if_pos (yd4 hkl w2),hy.e (hLF q)]
        have h57:Pure Tryz.prog 77 [.sl 11 (l.map Lim.pv),.sl 7 ((mvS y.slots).map Mov.pv)] (.tup [(firR l (mvS y.slots)).pv,.i .i64 (ydP l (mvS y.slots))]):=pure57 l (mvS y.slots)
        obtain ⟨e7,h57,he7⟩:∃ e7:Int,Pure Tryz.prog 77 [.sl 11 (l.map Lim.pv),.sl 7 ((mvS y.slots).map Mov.pv)] (.tup [(firR l (mvS y.slots)).pv,.i .i64 e7])/\(LG=true->e7=7):=⟨_,h57,hFi⟩
        have lgC:LG=true/\e7=7\/LG=false:=by cases LG;exact .inr rfl;exact .inl ⟨rfl,he7 rfl⟩
        rcases lgC with ⟨rfl,rfl⟩|rfl
        all_goals
         by_cases h1:n=1
         .obtain ⟨f1,f2,f3⟩:=hy.f h1
          have n1:=eq_true (show (n:Int)=1 by omega)
          have h70:=ycL (mvS b.slots) x (by omega) f2 f3
          rw [<-f1] at h70
          have qe:=aI qR (aI @Nat.zero_add (aI @Nat.mul_one (aI @hCl (aI @hDl (aI @c1 (aI @d1 (aI @he' (aI @lS (aI @n1 (aI @zbb yDT))))))))));repeat' first|refine gC ?_ ?_<;>intro hc<;>try contradiction|refine za hM2 ?_|refine zN (λ_=>yZ y hyo) ?_|refine zN (λ_=>hC3) ?_|refine za h21 ?_|refine za h57 ?_|refine zN (λ_=>h68) ?_|refine zN (λ_=>h70) ?_|refine gG ?_|show AK _;intro K H|refine H _ _ ?_;clear H K|refine gJ ?_;try exact trivial|omega
          all_goals exact ⟨n+1,by omega,by omega,by simp [hDs,hCs]⟩
         .have n1:=eq_false (show ¬(n:Int)=1 by omega)
          have qe:=aI qR (aI @Nat.zero_add (aI @Nat.mul_one (aI @hCl (aI @hDl (aI @c1 (aI @d1 (aI @he' (aI @lS (aI @n1 (aI @zbb yDT))))))))));repeat' first|refine gC ?_ ?_<;>intro hc<;>try contradiction|refine za hM2 ?_|refine zN (λ_=>yZ y hyo) ?_|refine zN (λ_=>hC3) ?_|refine za h21 ?_|refine za h57 ?_|(show zj _ _ _ _ (⟨_,.call 23,_,_,_⟩::_) _ _;refine yf (q:=.sl 7 []) (by first|rfl|(simp (disch:=omega) only [qG,qe,seval]<;>rfl)) ?_;(try (refine zE ?_)))|(show zj _ _ _ _ (⟨_,.call 78,_,_,_⟩::_) _ _;refine yf (q:=.b true) (by first|rfl|(simp (disch:=omega) only [qG,qe,seval]<;>rfl)) ?_;(try (refine zE ?_)))|refine gG ?_|show AK _;intro K H|refine H _ _ ?_;clear H K|refine gJ ?_;try exact trivial|omega
          all_goals exact ⟨n+1,by omega,by omega,by simp [hDs,hCs]⟩
       .have he':=eq_false he
        have qe:=aI qR (aI @Nat.zero_add (aI @Nat.mul_one (aI @hCl (aI @hDl (aI @c1 (aI @d1 (aI @he' (aI @decide_false @decide_true))))))));repeat' first|refine gC ?_ ?_<;>intro hc<;>try contradiction|refine gG ?_|show AK _;intro K H|refine H _ _ ?_;clear H K|refine gJ ?_;try exact trivial|omega
        all_goals exact ⟨n+1,by omega,by omega,by simp [hDs,hCs]⟩
      .have hA:=yd b.slots x.slot
       have qe:=@qR;repeat' first|refine za hA ?_|refine gG ?_|show AK _;intro K H|refine H _ _ ?_;clear H K|refine gJ ?_;try exact trivial|omega
       refine ycD ⟨[(0,.p (.sl 11 (l.map Lim.pv))),(4,.lp 4 0),(5,.lp 5 0),(8,.lp 8 0),(9,.lp 9 0)],[(4,.box [.p (.sl 16 (b.slots.map Slt.pv)),.p (.sl 14 (b.wait.map Wsh.pv))] false),(5,.box (tmC x) false),(8,.box (C.map .p) false),(9,.box D false)],[],false⟩ ?_ ?_
       .by_cases hat:atL x.slot (b.slots.map (·.req.name)) < 0
        .have ha1:=eq_false (show ¬(0<=atL x.slot (b.slots.map (·.req.name))) by omega)
         have qe:=aI qR (aI @ha1 (aI @decide_false @Bool.false_and));repeat' first|refine gC ?_ ?_<;>intro hc<;>try contradiction|refine gG ?_|show AK _;intro K H|refine H _ _ ?_;clear H K|refine gJ ?_;try exact trivial|omega
         exact .cov (by simp only [qS,seval]<;>simp [hDs,hCs])
        .have ha1:=eq_true (show 0<=atL x.slot (b.slots.map (·.req.name)) by omega)
         obtain ⟨f1,f2,f3⟩:=slot_found hat
         have hR2:=ybn l b (zo b x.slot).holder x.slot (zo b x.slot).req.minute (λ_=>hok)
         have f4:b.slots[(atL x.slot (b.slots.map (·.req.name))).toNat]?=some (zo b x.slot):=f1
         have f5:atL x.slot (b.slots.map (·.req.name)) < b.slots.length:=by omega
         cases LG with
         | false=>
          have qe:=aI qR (aI @ha1 (aI @decide_true @Bool.true_and));repeat' first|refine gC ?_ ?_<;>intro hc<;>try contradiction|refine gG ?_|show AK _;intro K H|refine H _ _ ?_;clear H K|refine gJ ?_;try exact trivial|omega
          exact .cov (by simp only [qS,seval]<;>simp [hDs,hCs])
         | true=>
          have hs3:=ydu hkl hkb (hLF rfl) f1
          rw [yaM hat] at hs3
          rw [yaF hF ydw,hs3.1,hs3.2] at hR2
          generalize zo b x.slot=sl at hR2 f4
          have qe:=aI qR (aI @ha1 (aI @f4 (aI @zbb (aI @decide_true (aI @decide_false (aI @Bool.not_true @Bool.true_and))))));repeat' first|refine gC ?_ ?_<;>intro hc<;>try contradiction|refine za h21 ?_|refine za (ybs b hok) ?_|refine za hR2 ?_|refine zN (λ_=>yZ b hok) ?_|refine zN (λ_=>ybp b) ?_|refine gG ?_|show AK _;intro K H|refine H _ _ ?_;clear H K|refine gJ ?_;try exact trivial|omega
          exact .cov (by simp only [qS,seval]<;>simp [hDs,hCs])
       .rw [eC,eD]
        by_cases he0:e0=0
        .obtain ⟨g1,g2,g3⟩:=kb he0
         have hK2:=pure1050 y0 x.req.carrier x.req.name x.req.per.fro (λ_=>ybj g3)
         rw [bkTo_ok g3 bckB_0,g1,g2] at hK2
         have he0':=eq_true he0
         have qe:=aI qR (aI @he0' (aI @toN0 (aI @n1 (aI @n2 (aI @n3 (aI @zbb yDT))))));repeat' first|refine gC ?_ ?_<;>intro hc<;>try contradiction|refine za hK2 ?_|refine zN (λ_=>yZ b hok) ?_|refine zN (λ_=>ybp b) ?_|refine za pure1017 ?_|refine gG ?_|show AK _;intro K H|refine H _ _ ?_;clear H K|refine gJ ?_;try exact trivial|omega
         all_goals exact .refl _
        .have he0':=eq_false he0
         have qe:=aI qR (aI @he0' (aI @toN0 @decide_false));repeat' first|refine gC ?_ ?_<;>intro hc<;>try contradiction|refine za pure1017 ?_|refine gG ?_|show AK _;intro K H|refine H _ _ ?_;clear H K|refine gJ ?_;try exact trivial|omega
         all_goals exact .refl _
    .have hkb':=eq_false hkb
     have qe:=aI qR (aI @hq (aI @hc' (aI @hs' (aI @hkb' (aI @zbb yDT)))));repeat' first|refine gC ?_ ?_<;>intro hc<;>try contradiction|refine za h15 ?_|refine zN (λ_=>yg x.req) ?_|refine zN (λ_=>h26) ?_|refine zN (λ_=>h23) ?_|refine zN (λ_=>hC) ?_|refine za pure1017 ?_|refine gG ?_|show AK _;intro K H|refine H _ _ ?_;clear H K|refine gJ ?_;try exact trivial|omega
     all_goals exact .refl _
   .have hkl':=eq_false hkl
    have qe:=aI qR (aI @hq (aI @hc' (aI @hs' (aI @hkl' (aI @zbb yDT)))));repeat' first|refine gC ?_ ?_<;>intro hc<;>try contradiction|refine za h15 ?_|refine zN (λ_=>yg x.req) ?_|refine zN (λ_=>h26) ?_|refine zN (λ_=>h23) ?_|refine zN (λ_=>hC) ?_|refine za pure1017 ?_|refine gG ?_|show AK _;intro K H|refine H _ _ ?_;clear H K|refine gJ ?_;try exact trivial|omega
    all_goals exact .refl _
  .have hq':shortB x.req=false:=by simpa using hq
   have qe:=aI qR (aI @hq' (aI @Bool.not_true @Bool.not_false));repeat' first|refine gC ?_ ?_<;>intro hc<;>try contradiction|refine za h15 ?_|refine zN (λ_=>yg x.req) ?_|refine zN (λ_=>h26) ?_|refine zN (λ_=>h23) ?_|refine zN (λ_=>hC) ?_|refine za pure1017 ?_|refine gG ?_|show AK _;intro K H|refine H _ _ ?_;clear H K|refine gJ ?_;try exact trivial|omega
   all_goals exact .refl _
 .have hs':(yT l 3 && ycw b)=false:=by simpa using hs
  rw [hs'] at h15
  have qe:=aI qR @Bool.not_false;repeat' first|refine gC ?_ ?_<;>intro hc<;>try contradiction|refine za h15 ?_|refine zN (λ_=>yg x.req) ?_|refine zN (λ_=>h26) ?_|refine zN (λ_=>h23) ?_|refine zN (λ_=>hC) ?_|refine za pure1017 ?_|refine gG ?_|show AK _;intro K H|refine H _ _ ?_;clear H K|refine gJ ?_;try exact trivial|omega
  all_goals exact .refl _
open Go.RowKit Go.ChangeShapes Go.WideShapes Go.ChangeAt
theorem ybJ (os:Os) (started:os.Started) (H:Type) (enc:TypeId × Value->H):ReturnsInHanded {} Tryz.checked os 12 .any (Rows.tradeBoundsSpec.pre6 enc Tryz.prog Tryz.f12 Rows.tradeBoundsRow.domain false) (Rows.tradeBoundsSpec.post enc Tryz.prog Tryz.f12 false true false false):=by
 refine returnsInHanded_of_change_shaped (C:=Tryz.checked) own started (by kernel_rfl) Tryz.func12
  (ChangeSpec.witness6 (enc:=enc) (C:=Tryz.checked) false ⟨#[],#[.slice none 0 0,.agg #[.slice none 0 0,.slice none 0 0],.agg #[zs,zs,zs,zs,zs,zs,zi,zi,zi,zi,zi,zi,zi,zs,zs,zi,zi]],[]⟩ 8 (by kernel_rfl) (by kernel_rfl) (by kernel_rfl) (by kernel_rfl)) ?_
 intro W base args ds gs before hval hW _ hsz _ _
 refine yaR (C:=Tryz.checked) (n:=6) (tb:=4) laid (by kernel_rfl) rfl (λH ds hd=>?_) (by kernel_rfl) und4 (by kernel_rfl) (λps hps=>?_) W base args ds gs before hval hW hsz
 .match ds,hd with
  | [_,_,_],_=>rfl
 .match ps,hps with
  | [a0,a1,a2],⟨h0,h1,h2,_⟩=>
   obtain ⟨l,rfl,hn⟩:=yc3 h0
   obtain ⟨b,rfl⟩:=fit_bk h1
   obtain ⟨x,rfl⟩:=ydO h2
   exact ycQ l b x hn
theorem ydX:(Rows.tradeBoundsRow.inPlace == Tryz.prog.inPlace 12)=true:=by kernel_rfl
theorem ydW:(Rows.tradeBoundsRow.unfollowed == Tryz.prog.unfollowed 12)=true:=by kernel_rfl
theorem ydV:(Rows.tradeBoundsRow.recurses == Tryz.prog.recurses 12)=true:=by kernel_rfl
theorem ydU:(Rows.tradeBoundsRow.named == Tryz.prog.varsNamed 12)=true:=by kernel_rfl
theorem ydT:Tryz.checked.prog.funcNamed Rows.tradeBoundsRow.func=some 12:=by kernel_rfl
theorem ydS:joinedFacts Tryz.prog 12 Tryz.f12 Rows.tradeBoundsSpec Rows.tradeBoundsRow=true:=
 ycc (by as_aux_lemma=>kernel_rfl) laid rowed (by as_aux_lemma=>kernel_rfl) ydX ydW ydV ydU (by as_aux_lemma=>kernel_rfl) (by as_aux_lemma=>kernel_rfl) (by as_aux_lemma=>kernel_rfl) (by as_aux_lemma=>kernel_rfl) (by as_aux_lemma=>kernel_rfl)
theorem ydR:Tryz.f12.isInstance Tryz.prog Rows.tradeBoundsRow.origin Rows.tradeBoundsRow.targs:=of_decide_eq_true (by kernel_rfl)
theorem ydQ:Tryz.f12.isWrapper Tryz.prog Rows.tradeBoundsRow.wrapper Rows.tradeBoundsRow.mainSum:=by
 unfold Func.isWrapper;first|(rw [if_pos (by decide +kernel)];kernel_rfl)|(rw [if_neg (by decide +kernel)];exact ⟨rfl,rfl⟩)
theorem ybg:Rows.tradeBoundsRow.holds Tryz.pinned (OpenSpec.ofChange Rows.tradeBoundsSpec):=
 OpenClaim.holds_of_wide 12 Tryz.f12 rfl rfl rfl rfl rfl rfl rfl ⟨rfl,rfl,rfl,rfl,rfl⟩ rfl rfl rfl rfl rfl ydT Tryz.func12 ydS ydR ydQ
  (λos started H enc _=>ybJ os started H enc)
theorem bounds_proved:Rows.TradeBoundsSaid:=ybg
