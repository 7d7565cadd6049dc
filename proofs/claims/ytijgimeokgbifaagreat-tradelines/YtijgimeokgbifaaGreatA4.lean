/- TradeLines holds: the events that a log accepts, in its first part, lead to a book, from which the further ones lead on; each event that is accepted has the book of its act; and a replay stops at the first event that is not accepted. No conditions. -/
import Derived.Test.YtijgimeokgbifaaGreatRows
import Derived.Test.YtijgimeokgbifaaGreatA3
set_option linter.all false
set_option maxHeartbeats 8000000
set_option maxRecDepth 100000
namespace Go.Proofs.YtijgimeokgbifaaGreat
open Go.RowKit
def ApB (l:List Lim) (b:Bk) (e:Evt):Bk × Int:=if lbE l b=0 then apP b l e else (bk0,lbE l b)
theorem yds (l:List Lim) (b:Bk) (e:Evt) (hb:zF b=0->zfz b/\b.wait.length<=10) (hN:e.names.length<=1000):Pure Tryz.prog 9 [.sl 11 (l.map Lim.pv),b.pv,e.pv] (.tup [(ApB l b e).1.pv,.i .i64 (ApB l b e).2]):=by
 by_cases h:lbE l b=0
 .have e1:(zg [z3 l,zF b]=0)=True:=eq_true h
  have hbk:=hb (fE0 h _ (by simp))
  rw [ApB,if_pos h];refine zf (cF Tryz.func9 Tryz.f9.eq_1) (by simp) λhw X hX=>?_
  have qe:=aI qR (aI @qN @e1);repeat' first|refine gC ?_ ?_<;>intro hc<;>try contradiction|refine za (zeR l) ?_|refine za (zV b) ?_|refine za (zw [_,_]) ?_|refine za (yaA b l e hbk.1 hbk.2 hN) ?_|refine gG ?_|show AK _;intro K H|refine H _ _ ?_;clear H K|refine gJ ?_;try exact trivial|omega
  exact .refl _
 .have e1:(zg [z3 l,zF b]=0)=False:=eq_false h
  rw [ApB,if_neg h];refine zat (r:=.tup [.agg [.nilsl,.nilsl],.i .i64 (lbE l b)]) ?_ (zbv _);refine zf (cF Tryz.func9 Tryz.f9.eq_1) (by simp) λhw X hX=>?_
  have qe:=aI qR (aI @qN @e1);repeat' first|refine gC ?_ ?_<;>intro hc<;>try contradiction|refine za (zeR l) ?_|refine za (zV b) ?_|refine za (zw [_,_]) ?_|refine gG ?_|show AK _;intro K H|refine H _ _ ?_;clear H K|refine gJ ?_;try exact trivial|omega
  exact .refl _
def rpB (l:List Lim):List Evt->Nat->Bk->Bk × Int × Int
 | [],_,b=>(b,0,0)
 | e::r,i,b=>if e.num=i+1 then (if (apP b l e).2=0 then rpB l r (i+1) (apP b l e).1 else (bk0,i,(apP b l e).2)) else (bk0,i,11)
def bkR (l:List Lim) (evs:List Evt):Nat->Bk
 | 0=>bk0
 | k+1=>match evs[k]? with
  | some e=>(apP (bkR l evs k) l e).1
  | none=>bkR l evs k
def okS (l:List Lim) (evs:List Evt) (k:Nat):Prop:=∀ j e,j < k->evs[j]?=some e->e.num=j+1/\(apP (bkR l evs j) l e).2=0
theorem ybO {l:List Lim} {evs:List Evt}:∀ k,k<=evs.length->okS l evs k->rpB l evs 0 bk0=rpB l (evs.drop k) k (bkR l evs k)
 | 0,_,_=>rfl
 | k+1,hk,ho=>by
  rw [ybO k (by omega) λj e hj=>ho j e (by omega)]
  obtain ⟨e,he⟩:=zm (i:=k) (l:=evs) (by omega)
  obtain ⟨h1,h2⟩:=ho k e (by omega) he
  have ed:evs.drop k=e::evs.drop (k+1):=by
   rw [List.drop_eq_getElem_cons (by omega),(List.getElem?_eq_some_iff.1 he).2]
  rw [ed,rpB,if_pos h1,if_pos h2];simp only [bkR,he]
def rpC (l:List Lim) (evs:List Evt):Int:=zg [z3 l,if 1000 < (evs.length:Int) then 5 else 0]
def RpB (l:List Lim) (evs:List Evt):Bk × Int × Int:=if rpC l evs=0 then rpB l evs 0 bk0 else (bk0,0,rpC l evs)
theorem wk_rp (i e:Int):Wk (.tup [.agg [.nilsl,.nilsl],.i .i64 i,.i .i64 e]) (.tup [bk0.pv,.i .i64 i,.i .i64 e]):=.tup ⟨.agg ⟨.nilsl _,.nilsl _,trivial⟩,.refl _,.refl _,trivial⟩
theorem yek:Weak (.agg [.nilsl,.nilsl]) bk0.pv:=by
 refine .agg rfl λj x y hx hy=>?_
 match j,hx,hy with
 | 0,hx,hy=>injection hx with hx;injection hy with hy;subst hx;subst hy;exact .nilsl _
 | 1,hx,hy=>injection hx with hx;injection hy with hy;subst hx;subst hy;exact .nilsl _
theorem yca (i e:Int):Weak (.tup [.agg [.nilsl,.nilsl],.i .i64 i,.i .i64 e]) (.tup [bk0.pv,.i .i64 i,.i .i64 e]):=by
 refine .tup rfl λj x y hx hy=>?_
 match j,hx,hy with
 | 0,hx,hy=>injection hx with hx;injection hy with hy;subst hx;subst hy;exact yek
 | 1,hx,hy=>injection hx with hx;injection hy with hy;subst hx;subst hy;exact .refl _
 | 2,hx,hy=>injection hx with hx;injection hy with hy;subst hx;subst hy;exact .refl _
theorem ydr (l:List Lim) (evs:List Evt) (hV:∀ k,k<=evs.length->okS l evs k->zfz (bkR l evs k)/\(bkR l evs k).wait.length<=10) (hN:∀ e ∈ evs,e.names.length<=1000):Pure Tryz.prog 19 [.sl 11 (l.map Lim.pv),.sl 5 (evs.map Evt.pv)] (.tup [(RpB l evs).1.pv,.i .i64 (RpB l evs).2.1,.i .i64 (RpB l evs).2.2]):=by
 by_cases h:rpC l evs=0
 .have e1:(zg [z3 l,if 1000 < (evs.length:Int) then 5 else 0]=0)=True:=eq_true h
  rw [RpB,if_pos h];refine zf (cF Tryz.func19 Tryz.f19.eq_1) (by simp) λhw X hX=>?_
  simp only [wfs,PV.wf,List.length_map,maxLen] at hw;have qe:=aI qR (aI @qN (aI @e1 @decide_eq_true_eq));repeat' first|refine gC ?_ ?_<;>intro hc<;>try contradiction|refine za (zeR l) ?_|refine za (zU _ _) ?_|refine za (zw [_,_]) ?_|refine gG ?_|show AK _;intro K H|refine H _ _ ?_;clear H K|refine gJ ?_;try exact trivial|omega
  refine zfP 8 [.p .nilsl,.p .nilsl] [.p (.sl 16 ([]:List PV)),.p (.sl 14 ([]:List PV))] (sR) ⟨.inr ⟨16,rfl,rfl⟩,.inr ⟨14,rfl,rfl⟩,trivial⟩ ?_;refine zj (κ:=Nat) (λk=>⟨[(0,.p (.sl 11 (l.map Lim.pv))),(4,.lp 4 0),(5,.p (.i .i64 0)),(6,.p (.i .i64 0)),(8,.lp 8 0),(25,.p (.sl 5 (evs.map Evt.pv))),(26,.p (.i .i64 evs.length)),(27,.p (.i .i64 k))],[(4,.box [.p .nilsl,.p .nilsl] false),(8,.box [.p (.sl 16 ((bkR l evs k).slots.map Slt.pv)),.p (.sl 14 ((bkR l evs k).wait.map Wsh.pv))] false)],[],false⟩) (λk=>k<=evs.length/\okS l evs k) (λk=>evs.length - k) 0 ?_ ?_ ?_
  .simp only [St.wr,oset.eq_1,oset.eq_2,qS,Nat.reduceAdd,Nat.reduceMul,Nat.reduceEqDiff,Nat.reduceLeDiff,reduceIte,reduceCtorEq,Nat.reduceBEq,Nat.reduceLT]<;>exact ⟨rfl,rfl⟩
  .exact ⟨Nat.zero_le _,λj e hj=>by omega⟩
  .rintro k ⟨hk,ho⟩
   obtain ⟨hB,hW⟩:=hV k hk ho;have hrp:=ybO k hk ho
   repeat first|refine gG ?_|show AK _;intro K H|refine H _ _ ?_;clear H K|refine gJ ?_;try exact trivial|omega
   (refine gC ?_ ?_<;>intro hc<;>try contradiction)
   .obtain ⟨e,he⟩:=zm (i:=k) (l:=evs) (by omega)
    have hNe:=hN e (List.mem_of_getElem? he);have ed:evs.drop k=e::evs.drop (k+1):=by
     rw [List.drop_eq_getElem_cons (by omega),(List.getElem?_eq_some_iff.1 he).2]
    rw [ed,rpB] at hrp
    by_cases hn:e.num=(k:Int)+1
    .have hnt:=eq_true hn
     rw [if_pos hn] at hrp
     by_cases ha:(apP (bkR l evs k) l e).2=0
     .have hat:=eq_true ha
      rw [if_pos ha] at hrp;have qe:=aI qR (aI @qN (aI @he (aI @hnt (aI @hat (aI @decide_true @Bool.not_true)))));repeat' first|refine gC ?_ ?_<;>intro hc<;>try contradiction|refine za (yaA (bkR l evs k) l e hB hW hNe) ?_|refine gG ?_|show AK _;intro K H|refine H _ _ ?_;clear H K|refine gJ ?_;try exact trivial|omega
      refine ⟨k+1,⟨by omega,λj x hj hx=>?_⟩,by omega,?_⟩
      .by_cases q:j=k
       .subst q;rw [he] at hx;injection hx with hx;subst hx;exact ⟨hn,ha⟩
       .exact ho j x (by omega) hx
      .simp only [bkR,he];simp
     .have hat:=eq_false ha
      rw [if_neg ha] at hrp;rw [hrp];have qe:=aI qR (aI @qN (aI @he (aI @hnt (aI @hat (aI @decide_true (aI @Bool.not_true (aI @decide_false @Bool.not_false)))))));repeat' first|refine gC ?_ ?_<;>intro hc<;>try contradiction|refine za (yaA (bkR l evs k) l e hB hW hNe) ?_|refine gG ?_|show AK _;intro K H|refine H _ _ ?_;clear H K|refine gJ ?_;try exact trivial|omega
      all_goals exact yca _ _
    .have hnt:=eq_false hn
     rw [if_neg hn] at hrp;rw [hrp];have qe:=aI qR (aI @qN (aI @he (aI @hnt (aI @decide_false @Bool.not_false))));repeat' first|refine gC ?_ ?_<;>intro hc<;>try contradiction|refine gG ?_|show AK _;intro K H|refine H _ _ ?_;clear H K|refine gJ ?_;try exact trivial|omega
     all_goals exact yca _ _
   .obtain rfl:k=evs.length:=by omega
    rw [hrp,List.drop_length,rpB];have qe:=aI qR @qN;repeat' first|refine gC ?_ ?_<;>intro hc<;>try contradiction|refine gG ?_|show AK _;intro K H|refine H _ _ ?_;clear H K|refine gJ ?_;try exact trivial|omega
    exact .refl _
 .have e1:(zg [z3 l,if 1000 < (evs.length:Int) then 5 else 0]=0)=False:=eq_false h
  rw [RpB,if_neg h];refine zat (r:=.tup [.agg [.nilsl,.nilsl],.i .i64 0,.i .i64 (rpC l evs)]) ?_ (wk_rp _ _);refine zf (cF Tryz.func19 Tryz.f19.eq_1) (by simp) λhw X hX=>?_
  simp only [wfs,PV.wf,List.length_map,maxLen] at hw;have qe:=aI qR (aI @qN (aI @e1 @decide_eq_true_eq));repeat' first|refine gC ?_ ?_<;>intro hc<;>try contradiction|refine za (zeR l) ?_|refine za (zU _ _) ?_|refine za (zw [_,_]) ?_|refine gG ?_|show AK _;intro K H|refine H _ _ ?_;clear H K|refine gJ ?_;try exact trivial|omega
  exact .refl _
theorem cmpW_0 {a b:Wsh} (h:a.req.name≠b.req.name):zv4 a b≠0:=λk=>by
 have h1:¬zv4 a b < 0:=by omega
 have h2:¬zv4 b a < 0:=λq=>ycO q (by omega)
 rw [ybE] at h1 h2
 by_cases k1:a.rank=b.rank
 .exact h2 (.inr ⟨k1.symm,ybx h λq=>h1 (.inr ⟨k1,q⟩)⟩)
 .rcases Int.lt_or_gt_of_ne k1 with q|q
  .exact h1 (.inl q)
  .exact h2 (.inl q)
theorem ybJ {b:Bk} {w:Wsh} (h:zfD b w=0):zkX w=0/\w.req.name ∉ sNm b.slots++wNm b.wait/\b.wait.length < 64:=by
 have h3:=fE0 h (if 64<=(b.wait.length:Int) then 5 else 0) (by simp)
 refine ⟨fE0 h (zkX w) (by simp),yd1 (fE0 h (tkE b w.req.name) (by simp)),?_⟩
 by_cases k:64<=(b.wait.length:Int)
 .rw [if_pos k] at h3;omega
 .omega
theorem yan {b:Bk} (hb:zF b=0) {w:Wsh} (h:zfD b w=0):zF (zlf b w)=0/\(zlf b w).wait.length=b.wait.length+1:=by
 obtain ⟨h1,h2,h3⟩:=ybJ h;obtain ⟨v1,v2,v3,v4,v5,v6⟩:=yV.1 hb;have e:=yel hb w;rw [yem,if_pos h] at e;rw [<-e];have hp:=ya7 hb;obtain ⟨A,B,eW,hA,hB⟩:=yav (R:=λx y=>zv4 x y < 0) (p:=ym w) (λx y q k=>by
  rw [yq] at k ⊢;exact decide_eq_true (yaF _ _ _ (of_decide_eq_true k) q)) hp
 have e2:inR ym w b.wait=A++w::B:=by rw [eW];exact ybz hA hB
 rw [e2];rw [eW] at v3 v4 v5 v6 h2 h3;have hnm:∀ y ∈ A++B,w.req.name≠y.req.name:=λy hy k=>h2 (List.mem_append_right _ (List.mem_map.2 ⟨y,hy,k.symm⟩))
 refine ⟨yV.2 ⟨v1,v2,?_,λy hy=>?_,?_,?_⟩,?_⟩
 .simp only [List.length_append,List.length_cons] at h3 ⊢;omega
 .rcases List.mem_append.1 hy with hy|hy
  .exact v4 y (List.mem_append_left _ hy)
  .rcases List.mem_cons.1 hy with rfl|hy
   .exact h1
   .exact v4 y (List.mem_append_right _ hy)
 .have e3:sNm b.slots++wNm (A++w::B)=(sNm b.slots++wNm A)++w.req.name::wNm B:=by simp [wNm]
  have e4:sNm b.slots++wNm (A++B)=(sNm b.slots++wNm A)++wNm B:=by simp [wNm]
  rw [e4] at v5 h2;simp only;rw [e3];exact (List.perm_middle.nodup_iff).2 (List.nodup_cons.2 ⟨h2,v5⟩)
 .obtain ⟨p1,p2,p3⟩:=List.pairwise_append.1 v6
  refine List.pairwise_append.2 ⟨p1,List.pairwise_cons.2 ⟨λy hy=>?_,p2⟩,λx hx y hy=>?_⟩
  .have:=hB y hy
   rw [yq] at this;exact of_decide_eq_true this
  .rcases List.mem_cons.1 hy with rfl|hy
   .have k:=hA x hx
    rw [yq] at k;have k1:=of_decide_eq_false k;have k2:=cmpW_0 (hnm x (List.mem_append_left _ hx));exact ybD (by omega)
   .exact p3 x hx y hy
 .rw [eW];simp;omega
theorem ydS {b:Bk} (hb:zF b=0) {l:List Lim} {e:Evt} {j:Nat} (h:(doB b l e j).2=0):zF (doB b l e j).1=0/\(doB b l e j).1.wait.length<=b.wait.length+1:=by
 match j,h with
 | 0,h=>
  have h':zei l b (evR e)=0:=h;exact ⟨ybY hb h,by show (zjv l b (evR e)).wait.length<=_;rw [zjv,if_pos h'];simp⟩
 | 1,h=>exact ⟨(ycV hb h).1,by
   show (zvN b (nA e.names 0) (nA e.names 1) (vA e.vals 0)).wait.length<=_;rw [zvN,if_pos (show zo8 b (nA e.names 0) (nA e.names 1) (vA e.vals 0)=0 from h),zv5]
   split<;>simp [zhj,zo1]⟩
 | 2,h=>exact ⟨(ybm hb h).1.v,by rw [show (doB b l e 2).1.wait=b.wait from (ybm hb h).1.w];omega⟩
 | 3,h=>exact ⟨(ybi hb h).1.v,by rw [show (doB b l e 3).1.wait=b.wait from (ybi hb h).1.w];omega⟩
 | 4,h=>exact ⟨(ybk hb h).1.v,by rw [show (doB b l e 4).1.wait=b.wait from (ybk hb h).1.w];omega⟩
 | 5,h=>exact ⟨(yaK hb h).1.v,by rw [show (doB b l e 5).1.wait=b.wait from (yaK hb h).1.w];omega⟩
 | 6,h=>exact ⟨(yN hb h).1.v,by rw [show (doB b l e 6).1.wait=b.wait from (yN hb h).1.w];omega⟩
 | 7,h=>exact ⟨(ybw hb h).1.v,by rw [show (doB b l e 7).1.wait=b.wait from (ybw hb h).1.w];omega⟩
 | 8,h=>exact ⟨yc6 hb h,by show (rtB l b _ _ _).wait.length<=_;rw [rtB,if_pos (show rtC l b (nA e.names 0) (nA e.names 1) (vA e.vals 0)=0 from h),zo1];simp⟩
 | 9,h=>exact ⟨(yan hb h).1,by rw [show (doB b l e 9).1.wait.length=b.wait.length+1 from (yan hb h).2];omega⟩
 | n+10,h=>exact ⟨ycd hb,by
   have:=zj2 (l:=l) (b:=b) (Nat.le_refl b.wait.length);show (srvB l b).wait.length<=_;simp only [srvB];omega⟩
theorem ydU {b:Bk} (hb:zF b=0) {l:List Lim} {e:Evt} (h:(apP b l e).2=0):zF (apP b l e).1=0/\(apP b l e).1.wait.length<=b.wait.length+1:=by
 by_cases hE:evE e=0
 .obtain ⟨nm,vl,j,hk,_⟩:=ybC hE
  have ea:apP b l e=doB b l e j:=by rw [apP,if_pos hE,hk]
  rw [ea] at h ⊢;exact ydS hb h
 .rw [apP,if_neg hE] at h;exact absurd h hE
theorem ye4:zF bk0=0:=rfl
theorem yau {l:List Lim} {evs:List Evt}:∀ k,k<=evs.length->okS l evs k->zF (bkR l evs k)=0/\(bkR l evs k).wait.length<=k
 | 0,_,_=>⟨ye4,Nat.le_refl _⟩
 | k+1,hk,ho=>by
  obtain ⟨h1,h2⟩:=yau k (by omega) λj e hj=>ho j e (by omega)
  obtain ⟨e,he⟩:=zm (i:=k) (l:=evs) (by omega)
  obtain ⟨h3,h4⟩:=ydU h1 (ho k e (by omega) he).2
  simp only [bkR,he];exact ⟨h3,by omega⟩
theorem ycm {l:List Lim}:∀ (evs:List Evt) (i k:Nat) (b:Bk),(rpB l (evs.take k) i b).2.2≠0->rpB l evs i b=rpB l (evs.take k) i b/\(rpB l (evs.take k) i b).2.1 < ((i+k:Nat):Int)
 | [],i,k,b,h=>by simp [rpB] at h
 | e::r,i,0,b,h=>by simp [rpB] at h
 | e::r,i,k+1,b,h=>by
  rw [List.take_succ_cons] at h ⊢;simp only [rpB] at h ⊢
  by_cases h1:e.num=i+1
  .rw [if_pos h1] at h
   rw [if_pos h1,if_pos h1]
   by_cases h2:(apP b l e).2=0
   .rw [if_pos h2] at h
    rw [if_pos h2,if_pos h2];obtain ⟨g1,g2⟩:=ycm r (i+1) k _ h;exact ⟨g1,by rw [show i+(k+1)=i+1+k by omega];exact g2⟩
   .rw [if_neg h2,if_neg h2]
    exact ⟨rfl,by show (i:Int) < _;omega⟩
  .rw [if_neg h1,if_neg h1]
   exact ⟨rfl,by show (i:Int) < _;omega⟩
theorem yM {l:List Lim} {evs:List Evt} {k:Nat}:∀ j,j<=k->bkR l (evs.take k) j=bkR l evs j
 | 0,_=>rfl
 | j+1,hj=>by
  simp only [bkR,yM (evs:=evs) (l:=l) (k:=k) j (by omega)]
  rw [List.getElem?_take_of_lt (by omega)]
theorem yeu {l:List Lim} {evs:List Evt} (hn:∀ (i:Nat) e,evs[i]?=some e->e.num=i+1):∀ k,k<=evs.length->(rpB l (evs.take k) 0 bk0).2.2=0->okS l evs k/\rpB l (evs.take k) 0 bk0=(bkR l evs k,0,0):=by
 intro k hk h;have key:∀ m,m<=k->okS l evs m:=by
  intro m
  induction m with
  | zero=>intro _ j e hj;omega
  | succ m ih=>
   intro hm;have ho:=ih (by omega)
   have ho2:okS l (evs.take k) m:=λj e hj he=>by
    rw [List.getElem?_take_of_lt (by omega)] at he
    rw [yM j (by omega)]
    exact ho j e hj he
   have hr:=ybO m (by rw [List.length_take];omega) ho2
   obtain ⟨e,he⟩:=zm (i:=m) (l:=evs) (by omega)
   have het:(evs.take k)[m]?=some e:=by rw [List.getElem?_take_of_lt (by omega)];exact he
   have ed:(evs.take k).drop m=e::(evs.take k).drop (m+1):=by
    have hl:=(List.getElem?_eq_some_iff.1 het).1;rw [List.drop_eq_getElem_cons hl,(List.getElem?_eq_some_iff.1 het).2]
   rw [ed,rpB,if_pos (hn m e he),yM m (by omega)] at hr
   have ha:(apP (bkR l evs m) l e).2=0:=by
    by_cases q:(apP (bkR l evs m) l e).2=0
    .exact q
    .rw [if_neg q] at hr;rw [hr] at h;exact absurd h q
   intro j x hj hx
   by_cases q:j=m
   .subst q;rw [he] at hx;injection hx with hx;subst hx;exact ⟨hn j e he,ha⟩
   .exact ho j x (by omega) hx
 have ho:=key k (Nat.le_refl _);refine ⟨ho,?_⟩;have ho2:okS l (evs.take k) k:=λj e hj he=>by
  rw [List.getElem?_take_of_lt (by omega)] at he
  rw [yM j (by omega)]
  exact ho j e hj he
 have hl:(evs.take k).length=k:=by rw [List.length_take];omega
 rw [ybO k (by omega) ho2,show (evs.take k).drop k=[] from List.drop_eq_nil_of_le (by omega),rpB,yM k (Nat.le_refl _)]
theorem yc8 {l:List Lim} {evs:List Evt} {n:Nat} {e:Evt} (he:evs[n]?=some e) (hn:e.num=n+1) (ho:okS l evs n) (ha:(apP (bkR l evs n) l e).2≠0):rpB l evs 0 bk0=(bk0,(n:Int),(apP (bkR l evs n) l e).2):=by
 have hl:=(List.getElem?_eq_some_iff.1 he).1;rw [ybO n (by omega) ho,List.drop_eq_getElem_cons hl,(List.getElem?_eq_some_iff.1 he).2,rpB,if_pos hn,if_neg ha]
theorem rp_all {l:List Lim} {evs:List Evt} (ho:okS l evs evs.length):rpB l evs 0 bk0=(bkR l evs evs.length,0,0):=by
 rw [ybO _ (Nat.le_refl _) ho,List.drop_length,rpB]
def bigE (e:Evt):Bool:=((decide ((9:Int) < e.names.length) || decide ((9:Int) < e.vals.length)) || decide ((40:Int) < e.kind.size)) || decide ((40:Int) < e.text.size)
def perV:List Int->Bool
 | v0::v1::v2::_::_::_::_::_=>if zau ⟨v0,v1,v2⟩=0 then decide (v1 - v0 < 14) else true
 | _=>true
def ybM (e:Evt):Bool:=!bigE e && (e.names.all ydA && perV e.vals)
theorem yeA {V:List Int} (h:¬7<=V.length):perV V=true:=by
 match V with
 | []=>rfl
 | [_]=>rfl
 | [_,_]=>rfl
 | [_,_,_]=>rfl
 | [_,_,_,_]=>rfl
 | [_,_,_,_,_]=>rfl
 | [_,_,_,_,_,_]=>rfl
 | _::_::_::_::_::_::_::_=>simp at h
theorem ydt (e:Evt):Pure Tryz.prog 7 [e.pv] (.b (ybM e)):=by
 obtain ⟨num,kind,names,vals,text⟩:=e;refine zf (cF Tryz.func7 Tryz.f7.eq_1) (by simp) λhw X hX=>?_
 simp only [wfs,PV.wf,List.length_map,maxLen] at hw;have qe:=@qR;repeat' first|refine gC ?_ ?_<;>intro hc<;>try contradiction|refine gG ?_|show AK _;intro K H|refine H _ _ ?_;clear H K|refine gJ ?_;try exact trivial|omega
 .have:bigE ⟨num,kind,names,vals,text⟩=true:=by simpa [bigE] using hc
  rw [ybM,this];exact .refl _
 have hsh:bigE ⟨num,kind,names,vals,text⟩=false:=by simpa [bigE] using hc
 refine zj (κ:=Nat) (λi=>⟨[(1,.lp 1 0),(3,.p (.i .i64 i))],[(1,.box [.p (.i .i64 num),.p (.s kind),.p (.sl 1 (names.map .s)),.p (.sl 1 (vals.map (.i .i64))),.p (.s text)] false)],[],false⟩) (λi=>i<=names.length/\∀ y ∈ names.take i,ydA y=true) (λi=>names.length - i) 0 ?_ ?_ ?_
 .exact sS
 .simp
 .intro i hi
  repeat first|refine gG ?_|show AK _;intro K H|refine H _ _ ?_;clear H K|refine gJ ?_;try exact trivial|omega
  (refine gC ?_ ?_<;>intro hc<;>try contradiction)
  .obtain ⟨y,hx⟩:=zm (i:=i) (l:=names) (by omega)
   have qe:=aI qR @hx;repeat' first|refine gC ?_ ?_<;>intro hc<;>try contradiction|refine gG ?_|show AK _;intro K H|refine H _ _ ?_;clear H K|refine gJ ?_;try exact trivial|omega
   .rw [ybM,hsh,ycX hx (by rw [ydA,decide_eq_true hc];rfl)];exact .refl _
   .exact ⟨i+1,⟨by omega,yaI hi.2 hx (by rw [ydA,decide_eq_false (by omega)];rfl)⟩,by omega,by simp⟩
  .have e1:i=names.length:=by omega
   subst e1;have ha:=ycY hi.2
   by_cases h7:7<=vals.length
   .match vals,h7 with
    | v0::v1::v2::v3::v4::v5::v6::r,_=>
     have h7t:((7:Int)<=((r.length+1+1+1+1+1+1+1:Nat):Int))=True:=eq_true (by omega)
     by_cases hp:zau ⟨v0,v1,v2⟩=0
     .have h1:=zaY hp
      simp only at h1;have e2:ybM ⟨num,kind,names,v0::v1::v2::v3::v4::v5::v6::r,text⟩=decide (v1 - v0 < 14):=by rw [ybM,hsh,ha,perV,if_pos hp];rfl
      rw [e2];have qe:=aI qR (aI @tN (aI @hp (aI @h7t (aI @List.map_cons.{0,0} (aI @decide_true @Bool.not_true)))));repeat' first|refine gC ?_ ?_<;>intro hc<;>try contradiction|refine za (yaR ⟨v0,v1,v2⟩) ?_|refine gG ?_|show AK _;intro K H|refine H _ _ ?_;clear H K|refine gJ ?_;try exact trivial|omega
      all_goals exact .refl _
     .have hpf:=eq_false hp
      have e2:ybM ⟨num,kind,names,v0::v1::v2::v3::v4::v5::v6::r,text⟩=true:=by rw [ybM,hsh,ha,perV,if_neg hp];rfl
      rw [e2];have qe:=aI qR (aI @tN (aI @hpf (aI @h7t (aI @List.map_cons.{0,0} (aI @decide_true (aI @decide_false @Bool.not_false))))));repeat' first|refine gC ?_ ?_<;>intro hc<;>try contradiction|refine za (yaR ⟨v0,v1,v2⟩) ?_|refine gG ?_|show AK _;intro K H|refine H _ _ ?_;clear H K|refine gJ ?_;try exact trivial|omega
      all_goals exact .refl _
   .have h7f:((7:Int)<=(vals.length:Int))=False:=eq_false (by omega)
    rw [ybM,hsh,ha,yeA h7];have qe:=aI qR (aI @h7f @decide_false);repeat' first|refine gC ?_ ?_<;>intro hc<;>try contradiction|refine gG ?_|show AK _;intro K H|refine H _ _ ?_;clear H K|refine gJ ?_;try exact trivial|omega
    all_goals exact .refl _
theorem ybL {e:Evt} (h:ybM e=true):e.names.length<=9:=by
 rw [ybM,Bool.and_eq_true] at h;have h1:=h.1;simp only [bigE,Bool.not_eq_true',Bool.or_eq_false_iff,decide_eq_false_iff_not] at h1
 omega
theorem rpC_0 {l:List Lim} {evs:List Evt} (hk:z3 l=0) (h8:evs.length<=8):rpC l evs=0:=by
 rw [rpC];exact zp.2 ⟨hk,zp.2 ⟨if_neg (by omega),rfl⟩⟩
theorem yd2 {l:List Lim} {evs:List Evt} (hk:z3 l=0) (h8:evs.length<=8):RpB l evs=rpB l evs 0 bk0:=by rw [RpB,if_pos (rpC_0 hk h8)]
theorem rep_h {l:List Lim} {evs:List Evt} (h8:evs.length<=8) (hN:∀ e ∈ evs,e.names.length<=9):Pure Tryz.prog 19 [.sl 11 (l.map Lim.pv),.sl 5 (evs.map Evt.pv)] (.tup [(RpB l evs).1.pv,.i .i64 (RpB l evs).2.1,.i .i64 (RpB l evs).2.2]):=
 ydr l evs (λk hk ho=>by
  obtain ⟨h1,h2⟩:=yau k hk ho;exact ⟨ybh h1,by omega⟩) λe he=>by have:=hN e he;omega
theorem yeg (L:List Evt):L.all ((λx=>x.cells.all PV.one) ∘ Evt.pv)=true:=by
 rw [List.all_eq_true];intro x _;rfl
theorem ydy (l:List Lim) (evs:List Evt) (c:Int) (hn:l.length*112<=140737488355328):Pure Tryz.prog 5 [.sl 11 (l.map Lim.pv),.sl 5 (evs.map Evt.pv),.i .u8 c] (.b true):=by
 refine zf (cF Tryz.func5 Tryz.f5.eq_1) (by simp) λhw X hX=>?_
 simp only [wfs,PV.wf,List.length_map,maxLen] at hw;have hc0:0<=c/\c<=255:=(zaN .u8 c).1 hw.2.2.1;have h15:=pure15 l 3;have h26:=ydw l hn;have h21:=ydx l hn;have h23:=pure23 l
 by_cases hs:¬(y7 l 3=true)
 .have hs':y7 l 3=false:=by simpa using hs
  rw [hs'] at h15;have qe:=aI qR (aI @decide_true (aI @decide_false (aI @Bool.not_true @Bool.not_false)));repeat' first|refine gC ?_ ?_<;>intro hc<;>try contradiction|refine za h26 ?_|refine za h15 ?_|refine zM (λ_=>h26) ?_|refine zM (λ_=>h23) ?_|refine za pure1017 ?_|refine gG ?_|show AK _;intro K H|refine H _ _ ?_;clear H K|refine gJ ?_;try exact trivial|omega
  all_goals exact .refl _
 have hs:=Classical.not_not.1 hs;rw [hs] at h15
 by_cases hk:¬(z3 l=0)
 .have hk':=eq_false hk
  have qe:=aI qR (aI @hk' (aI @decide_true (aI @decide_false (aI @Bool.not_true @Bool.not_false))));repeat' first|refine gC ?_ ?_<;>intro hc<;>try contradiction|refine za h26 ?_|refine za h15 ?_|refine zM (λ_=>h26) ?_|refine zM (λ_=>h23) ?_|refine za pure1017 ?_|refine gG ?_|show AK _;intro K H|refine H _ _ ?_;clear H K|refine gJ ?_;try exact trivial|omega
  all_goals exact .refl _
 have hk:=Classical.not_not.1 hk;rw [hk] at h23
 by_cases h8:¬(evs.length<=8)
 .have h8':((8:Int) < (evs.length:Int))=True:=eq_true (by omega)
  have qe:=aI qR (aI @h8' (aI @decide_true (aI @decide_false (aI @Bool.not_true @Bool.not_false))));repeat' first|refine gC ?_ ?_<;>intro hc<;>try contradiction|refine za h26 ?_|refine za h15 ?_|refine zM (λ_=>h26) ?_|refine zM (λ_=>h23) ?_|refine za pure1017 ?_|refine gG ?_|show AK _;intro K H|refine H _ _ ?_;clear H K|refine gJ ?_;try exact trivial|omega
  all_goals exact .refl _
 have h8:=Classical.not_not.1 h8;have h8':((8:Int) < (evs.length:Int))=False:=eq_false (by omega)
 have qe:=aI qR (aI @h8' (aI @decide_true (aI @decide_false (aI @Bool.not_true @Bool.not_false))));repeat' first|refine gC ?_ ?_<;>intro hc<;>try contradiction|refine za h26 ?_|refine za h15 ?_|refine zM (λ_=>h26) ?_|refine zM (λ_=>h23) ?_|refine za pure1017 ?_|refine gG ?_|show AK _;intro K H|refine H _ _ ?_;clear H K|refine gJ ?_;try exact trivial|omega
 refine zj (κ:=Nat) (λi=>⟨[(0,.p (.sl 11 (l.map Lim.pv))),(1,.p (.sl 5 (evs.map Evt.pv))),(2,.p (.i .u8 c)),(6,.p (.b false)),(36,.p (.sl 5 (evs.map Evt.pv))),(37,.p (.i .i64 evs.length)),(38,.p (.i .i64 i))],[],[],false⟩) (λi=>i<=evs.length/\∀ (j:Nat) (e:Evt),j < i->evs[j]?=some e->ybM e=true/\e.num=j+1) (λi=>evs.length - i) 0 ?_ ?_ ?_
 .exact sS
 .exact ⟨Nat.zero_le _,λj e hj=>by omega⟩
 rintro i ⟨hi,hall⟩
 repeat first|refine gG ?_|show AK _;intro K H|refine H _ _ ?_;clear H K|refine gJ ?_;try exact trivial|omega
 (refine gC ?_ ?_<;>intro hc<;>try contradiction)
 .obtain ⟨e,he⟩:=zm (i:=i) (l:=evs) (by omega)
  have h75:=ydt e
  by_cases q1:¬(ybM e=true)
  .have q1':ybM e=false:=by simpa using q1
   rw [q1'] at h75;have qe:=aI qR (aI @qN (aI @he (aI @decide_true (aI @decide_false (aI @Bool.not_true @Bool.not_false)))));repeat' first|refine gC ?_ ?_<;>intro hc<;>try contradiction|refine za h75 ?_|refine za pure1017 ?_|refine gG ?_|show AK _;intro K H|refine H _ _ ?_;clear H K|refine gJ ?_;try exact trivial|omega
   all_goals exact .refl _
  have q1:=Classical.not_not.1 q1;rw [q1] at h75
  by_cases q2:¬(e.num=(i:Int)+1)
  .have q2':=eq_false q2
   have qe:=aI qR (aI @qN (aI @he (aI @q2' (aI @decide_true (aI @decide_false (aI @Bool.not_true @Bool.not_false))))));repeat' first|refine gC ?_ ?_<;>intro hc<;>try contradiction|refine za h75 ?_|refine za pure1017 ?_|refine gG ?_|show AK _;intro K H|refine H _ _ ?_;clear H K|refine gJ ?_;try exact trivial|omega
   all_goals exact .refl _
  have q2:=Classical.not_not.1 q2;have q2':=eq_true q2;have qe:=aI qR (aI @qN (aI @he (aI @q2' (aI @decide_true (aI @decide_false (aI @Bool.not_true @Bool.not_false))))));repeat' first|refine gC ?_ ?_<;>intro hc<;>try contradiction|refine za h75 ?_|refine za pure1017 ?_|refine gG ?_|show AK _;intro K H|refine H _ _ ?_;clear H K|refine gJ ?_;try exact trivial|omega
  exact ⟨i+1,⟨by omega,λj x hj hx=>by
   by_cases q:j=i
   .subst q;rw [he] at hx;injection hx with hx;subst hx;exact ⟨q1,q2⟩
   .exact hall j x (by omega) hx⟩,by omega,by simp⟩
 obtain rfl:i=evs.length:=by omega
 have hnum:∀ (j:Nat) (e:Evt),evs[j]?=some e->e.num=j+1:=λj e he=>(hall j e (List.getElem?_eq_some_iff.1 he).1 he).2
 have hN:∀ e ∈ evs,e.names.length<=9:=λe he=>by
  obtain ⟨j,hj⟩:=List.mem_iff_getElem?.1 he;exact ybL (hall j e (List.getElem?_eq_some_iff.1 hj).1 hj).1
 obtain ⟨k,hk1,hk2⟩:∃ k:Nat,c.tmod ((evs.length:Int)+1)=k/\k<=evs.length:=by
  have h1:=Int.tmod_nonneg ((evs.length:Int)+1) hc0.1;have h2:=Int.tmod_lt_of_pos c (b:=(evs.length:Int)+1) (by omega)
  exact ⟨(c.tmod ((evs.length:Int)+1)).toNat,by omega,by omega⟩
 have hR:=yd2 hk h8;have hP:=yd2 (evs:=evs.take k) hk (by rw [List.length_take];omega)
 have h79:=rep_h (l:=l) h8 hN;have h79k:=rep_h (l:=l) (evs:=evs.take k) (by rw [List.length_take];omega) λe he=>hN e (List.mem_of_mem_take he)
 have hal:=eq_true (yeg evs);have hak:=eq_true (yeg (evs.take k));have hmt:(evs.map Evt.pv).take k=(evs.take k).map Evt.pv:=List.map_take.symm;have hml:((evs.take k).map Evt.pv).length=k:=by rw [List.length_map,List.length_take];omega
 by_cases hp:¬((rpB l (evs.take k) 0 bk0).2.2=0)
 .obtain ⟨f1,f2⟩:=ycm evs 0 k bk0 hp
  rw [f1,<-hP] at hR;rw [hR] at h79;rw [<-hP] at hp f2;generalize RpB l (evs.take k)=R at h79 h79k hp f2;obtain ⟨pb,pi,pe⟩:=R;simp only at h79 h79k hp f2;have hp':=eq_false hp;have f2':(pi < (k:Int))=True:=eq_true (by omega)
  have qe:=aI qR (aI @qN (aI @hk1 (aI @hmt (aI @hml (aI @hal (aI @hak (aI @hp' (aI @f2' (aI @zaf (aI @zbb (aI @decide_true (aI @decide_false (aI @Bool.not_true @Bool.not_false)))))))))))));repeat' first|refine gC ?_ ?_<;>intro hc<;>try contradiction|refine za h21 ?_|refine zam (h79k) ?_|refine zam (h79) ?_|refine zM (λ_=>pure1017) ?_|refine gG ?_|show AK _;intro K H|refine H _ _ ?_;clear H K|refine gJ ?_;try exact trivial|omega
  all_goals exact .refl _
 have hp:=Classical.not_not.1 hp;obtain ⟨ho,hg⟩:=yeu hnum k hk2 hp;rw [hg] at hP;rw [hP] at h79k;simp only at h79k;rw [hR] at h79;generalize hRR:rpB l evs 0 bk0=R at h79;obtain ⟨wb,wi,we⟩:=R;simp only at h79;have qe:=aI qR (aI @qN (aI @hk1 (aI @hmt (aI @hml (aI @hal (aI @hak (aI @zaf (aI @decide_true (aI @decide_false (aI @Bool.not_true @Bool.not_false))))))))));repeat' first|refine gC ?_ ?_<;>intro hc<;>try contradiction|refine za h21 ?_|refine zam (h79k) ?_|refine zam (h79) ?_|refine gG ?_|show AK _;intro K H|refine H _ _ ?_;clear H K|refine gJ ?_;try exact trivial|omega
 refine zj (κ:=Nat) (λn=>⟨[(0,.p (.sl 11 (l.map Lim.pv))),(1,.p (.sl 5 (evs.map Evt.pv))),(6,.p (.b false)),(10,.lp 10 0),(11,.p (.i .i64 wi)),(12,.p (.i .i64 we)),(16,.lp 16 0),(17,.p (.i .i64 n))],[(10,.box [.p (.sl 16 (wb.slots.map Slt.pv)),.p (.sl 14 (wb.wait.map Wsh.pv))] false),(16,.box [.p (.sl 16 ((bkR l evs n).slots.map Slt.pv)),.p (.sl 14 ((bkR l evs n).wait.map Wsh.pv))] false)],[],false⟩) (λn=>n<=evs.length/\okS l evs n) (λn=>evs.length - n) k ?_ ?_ ?_
 .exact sS
 .exact ⟨hk2,ho⟩
 rintro n ⟨hnl,hon⟩;obtain ⟨hv,hwn⟩:=yau n hnl hon;have hbo:=ybh hv
 repeat first|refine gG ?_|show AK _;intro K H|refine H _ _ ?_;clear H K|refine gJ ?_;try exact trivial|omega
 (refine gC ?_ ?_<;>intro hc<;>try contradiction)
 .obtain ⟨e,he⟩:=zm (i:=n) (l:=evs) (by omega)
  have hen:=hnum n e he;have hNe:e.names.length<=1000:=by have:=hN e (List.mem_of_getElem? he);omega
  have h76:=yds l (bkR l evs n) e (λ_=>⟨hbo,by omega⟩) hNe
  have hlb:lbE l (bkR l evs n)=0:=zp.2 ⟨hk,zp.2 ⟨hv,rfl⟩⟩;rw [ApB,if_pos hlb] at h76
  by_cases ha:(apP (bkR l evs n) l e).2=0
  .have hat:=eq_true ha
   have qe:=aI qR (aI @qN (aI @he (aI @hat (aI @decide_true @Bool.not_true))));repeat' first|refine gC ?_ ?_<;>intro hc<;>try contradiction|refine za h21 ?_|refine za h76 ?_|refine gG ?_|show AK _;intro K H|refine H _ _ ?_;clear H K|refine gJ ?_;try exact trivial|omega
   refine ⟨n+1,⟨by omega,λj x hj hx=>?_⟩,by omega,?_⟩
   .by_cases q:j=n
    .subst q;rw [he] at hx;injection hx with hx;subst hx;exact ⟨hen,ha⟩
    .exact hon j x (by omega) hx
   .simp only [bkR,he];simp
  .have hat:=eq_false ha
   have hw1:=yc8 he hen hon ha;rw [hRR] at hw1;injection hw1 with g1 g2;injection g2 with g2 g3;subst g1;subst g2;subst g3;have z1:bk0.slots.length=0:=rfl;have z2:bk0.wait.length=0:=rfl;have qe:=aI qR (aI @qN (aI @he (aI @hat (aI @z1 (aI @z2 (aI @zbb (aI @decide_false (aI @decide_true (aI @Bool.not_false @Bool.not_true)))))))));repeat' first|refine gC ?_ ?_<;>intro hc<;>try contradiction|refine za h21 ?_|refine za h76 ?_|refine zM (λ_=>pure1017) ?_|refine gG ?_|show AK _;intro K H|refine H _ _ ?_;clear H K|refine gJ ?_;try exact trivial|omega
   all_goals exact .refl _
 .obtain rfl:n=evs.length:=by omega
  have hw1:=rp_all hon;rw [hRR] at hw1;injection hw1 with g1 g2;injection g2 with g2 g3;subst g1;subst g2;subst g3;have qe:=aI qR (aI @qN (aI @zbb @decide_true));repeat' first|refine gC ?_ ?_<;>intro hc<;>try contradiction|refine zM (λ_=>ydu (bkR l evs evs.length) hbo) ?_|refine zM (λ_=>ydv (bkR l evs evs.length)) ?_|refine zM (λ_=>pure1017) ?_|refine gG ?_|show AK _;intro K H|refine H _ _ ?_;clear H K|refine gJ ?_;try exact trivial|omega
  all_goals exact .refl _
open Go.RowKit Go.ChangeShapes Go.WideShapes Go.ChangeAt
def evtT:List CP:=[jT,.s,.sl false [.s],.sl false [jT],.s]
theorem yeN {n:Nat} {p:PV} (h:Fit (n+1) (.sl false [jT]) p):∃ L:List Int,p=.sl 1 (L.map (.i .i64)):=by
 obtain ⟨xs,rfl,hx⟩:=h;obtain ⟨L,rfl⟩:=yaa (f:=PV.i .i64) (xs:=xs) λx h=>by
  obtain ⟨l,rfl,hf⟩:=hx x h
  match l,hf with
  | [_],⟨h1,_⟩=>
   cases n<;>(obtain ⟨a,rfl⟩:=h1;exact ⟨a,rfl⟩)
 exact ⟨L,rfl⟩
theorem evt_of {n:Nat} {l:List PV} (h:FitAll (Fit (n+1)) evtT l):∃ e:Evt,.agg l=e.pv:=by
 match l,h with
 | [_,_,_,_,_],⟨⟨a,ha⟩,⟨b,hb⟩,h1,h2,⟨c,hc⟩,_⟩=>
  subst ha hb hc;obtain ⟨N,rfl⟩:=yep h1;obtain ⟨V,rfl⟩:=yeN h2;exact ⟨⟨a,b,N,V,c⟩,rfl⟩
theorem parE:yd6 Tryz.prog 6 52=some (false,[.sl true evtT]):=by kernel_rfl
theorem yeQ {p:PV} (h:yak Tryz.prog 6 52 p):∃ L:List Evt,p=.sl 5 (L.map Evt.pv):=by
 obtain ⟨⟨ag,c,l,hp,rfl,hl⟩,hb⟩:=h;rw [parE] at hp;simp only [Option.some.injEq,Prod.mk.injEq] at hp;obtain ⟨rfl,rfl⟩:=hp
 match l,hl with
 | [q],⟨⟨xs,hq,hx⟩,_⟩=>
  subst hq;obtain ⟨L,rfl⟩:=yaa (f:=Evt.pv) (xs:=xs) λx h=>by
   obtain ⟨l,rfl,hf⟩:=hx x h;exact evt_of hf
  exact ⟨L,rfl⟩
theorem parU:yd6 Tryz.prog 6 5=some (false,[.i .u8]):=by kernel_rfl
theorem fit_u8 {p:PV} (h:yak Tryz.prog 6 5 p):∃ n:Int,p=.i .u8 n:=by
 obtain ⟨⟨ag,c,l,hp,rfl,hl⟩,hb⟩:=h;rw [parU] at hp;simp only [Option.some.injEq,Prod.mk.injEq] at hp;obtain ⟨rfl,rfl⟩:=hp
 match l,hl with
 | [_],⟨⟨a,ha⟩,_⟩=>subst ha;exact ⟨a,rfl⟩
theorem ybV (os:Os) (started:os.Started) (H:Type) (enc:TypeId × Value->H):ReturnsInHanded {} Tryz.checked os 5 .any (Rows.tradeLinesSpec.pre6 enc Tryz.prog Tryz.f5 Rows.tradeLinesRow.domain false) (Rows.tradeLinesSpec.post enc Tryz.prog Tryz.f5 false true false false):=by
 refine returnsInHanded_of_change_shaped (C:=Tryz.checked) own started (by kernel_rfl) Tryz.func5
  (ChangeSpec.witness6 (enc:=enc) (C:=Tryz.checked) false ⟨#[],#[.slice none 0 0,.slice none 0 0,.int .u8 0],[]⟩ 8 (by kernel_rfl) (by kernel_rfl) (by kernel_rfl) (by kernel_rfl)) ?_
 intro W base args ds gs before hval hW _ hsz _ _;refine yaT (C:=Tryz.checked) (n:=6) (tb:=4) laid (by kernel_rfl) rfl (λH ds hd=>?_) (by kernel_rfl) und4 (by kernel_rfl) (λps hps=>?_) W base args ds gs before hval hW hsz
 .match ds,hd with
  | [_,_,_],_=>rfl
 .match ps,hps with
  | [a0,a1,a2],⟨h0,h1,h2,_⟩=>
   obtain ⟨l,rfl,hn⟩:=ydL h0;obtain ⟨evs,rfl⟩:=yeQ h1;obtain ⟨c,rfl⟩:=fit_u8 h2;exact ydy l evs c hn
theorem yeY:(Rows.tradeLinesRow.inPlace == Tryz.prog.inPlace 5)=true:=by kernel_rfl
theorem yeX:(Rows.tradeLinesRow.unfollowed == Tryz.prog.unfollowed 5)=true:=by kernel_rfl
theorem yeW:(Rows.tradeLinesRow.recurses == Tryz.prog.recurses 5)=true:=by kernel_rfl
theorem yeV:(Rows.tradeLinesRow.named == Tryz.prog.varsNamed 5)=true:=by kernel_rfl
theorem yeU:Tryz.checked.prog.funcNamed Rows.tradeLinesRow.func=some 5:=by kernel_rfl
theorem yeT:joinedFacts Tryz.prog 5 Tryz.f5 Rows.tradeLinesSpec Rows.tradeLinesRow=true:=
 ycE (by as_aux_lemma=>kernel_rfl) laid rowed (by as_aux_lemma=>kernel_rfl) yeY yeX yeW yeV (by as_aux_lemma=>kernel_rfl) (by as_aux_lemma=>kernel_rfl) (by as_aux_lemma=>kernel_rfl) (by as_aux_lemma=>kernel_rfl) (by as_aux_lemma=>kernel_rfl)
theorem yeS:Tryz.f5.isInstance Tryz.prog Rows.tradeLinesRow.origin Rows.tradeLinesRow.targs:=of_decide_eq_true (by kernel_rfl)
theorem yeR:Tryz.f5.isWrapper Tryz.prog Rows.tradeLinesRow.wrapper Rows.tradeLinesRow.mainSum:=by
 unfold Func.isWrapper;first|(rw [if_pos (by decide +kernel)];kernel_rfl)|(rw [if_neg (by decide +kernel)];exact ⟨rfl,rfl⟩)
theorem ybU:Rows.tradeLinesRow.holds Tryz.pinned (OpenSpec.ofChange Rows.tradeLinesSpec):=
 OpenClaim.holds_of_wide 5 Tryz.f5 rfl rfl rfl rfl rfl rfl rfl ⟨rfl,rfl,rfl,rfl,rfl⟩ rfl rfl rfl rfl rfl yeU Tryz.func5 yeT yeS yeR
  (λos started H enc _=>ybV os started H enc)
theorem lines_proved:Rows.TradeLinesSaid:=ybU
