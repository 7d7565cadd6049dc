/- TradeReplays holds: Replay returns the book, the index and the error of the reference. No conditions. No conditions. -/
import Derived.Test.YtijgimeokgbifaaGreatRows
import Derived.Test.YtijgimeokgbifaaGreatR4
set_option linter.all false
set_option maxHeartbeats 8000000
set_option maxRecDepth 100000
namespace Go.Proofs.YtijgimeokgbifaaGreat
open Go.RowKit Go.Proofs.Tryz
def bigE (e:Evt):Bool:=((decide ((9:Int) < e.names.length) || decide ((9:Int) < e.vals.length)) || decide ((40:Int) < e.kind.size)) || decide ((40:Int) < e.text.size)
def perV:List Int->Bool
 | v0::v1::v2::_::_::_::_::_=>if zat ⟨v0,v1,v2⟩=0 then decide (v1 - v0 < 14) else true
 | _=>true
def ycL (e:Evt):Bool:=!bigE e && (e.names.all yeP && perV e.vals)
def yf1 {V:List Int} (h:¬7<=V.length):perV V=true:=by
 match V with
 | []=>rfl
 | [_]=>rfl
 | [_,_]=>rfl
 | [_,_,_]=>rfl
 | [_,_,_,_]=>rfl
 | [_,_,_,_,_]=>rfl
 | [_,_,_,_,_,_]=>rfl
 | _::_::_::_::_::_::_::_=>simp at h
def yeB (e:Evt):Pure prog 7 [e.pv] (.b (ycL e)):=by
 obtain ⟨num,kind,names,vals,text⟩:=e;refine pz func7 f7.eq_1 λhw X hX=>?_
 simp only [wfs,PV.wf,xaf,maxLen] at hw;have qe:=@qR;repeat' first|refine gC ?_ ?_<;>intro hc<;>try contradiction|refine gG ?_|show AK _;intro J Z|refine gJ ?_|omega|exact aT
 .have:bigE ⟨num,kind,names,vals,text⟩=true:=by simpa [bigE] using hc
  rw [ycL,this];exact .refl _
 have hsh:bigE ⟨num,kind,names,vals,text⟩=false:=by simpa [bigE] using hc
 refine zi (κ:=Nat) (λi=>⟨[(1,.lp 1 0),(3,.p (.i .i64 i))],[(1,.box [.p (.i .i64 num),.p (.s kind),.p (.sl 1 (names.map .s)),.p (.sl 1 (vals.map (.i .i64))),.p (.s text)] false)],[],false⟩) (λi=>i<=names.length/\∀ y ∈ names.take i,yeP y=true) (λi=>names.length - i) 0 ?_ ?_ ?_
 .exact sS
 .simp
 .intro i hi
  repeat first|refine gG ?_|show AK _;intro J Z|refine gJ ?_|omega|exact aT
  (refine gC ?_ ?_<;>intro hc<;>try contradiction)
  .obtain ⟨y,hx⟩:=zm (i:=i) (l:=names) (by omega)
   have qe:=aI qR @hx;repeat' first|refine gC ?_ ?_<;>intro hc<;>try contradiction|refine gG ?_|show AK _;intro J Z|refine gJ ?_|omega|exact aT
   .rw [ycL,hsh,ycG hx (by rw [yeP,decide_eq_true hc];rfl)];exact .refl _
   .exact ⟨i+1,⟨by omega,yaw hi.2 hx (by rw [yeP,decide_eq_false (by omega)];rfl)⟩,by omega,by simp⟩
  .have e1:i=names.length:=by omega
   subst e1;have ha:=yb1 hi.2
   by_cases h7:7<=vals.length
   .match vals,h7 with
    | v0::v1::v2::v3::v4::v5::v6::r,_=>
     have h7t:((7:Int)<=((r.length+1+1+1+1+1+1+1:Nat):Int))=True:=eq_true (by omega)
     by_cases hp:zat ⟨v0,v1,v2⟩=0
     .have h1:=zaW hp;simp only at h1;have e2:ycL ⟨num,kind,names,v0::v1::v2::v3::v4::v5::v6::r,text⟩=decide (v1 - v0 < 14):=by rw [ycL,hsh,ha,perV,if_pos hp];rfl
      rw [e2];have qe:=aI qR (aI @tN (aI @hp (aI @h7t (aI @List.map_cons.{0,0} (aI @decide_true @xam)))));have jA:=yaS ⟨v0,v1,v2⟩;exact gD2
     .have hpf:=eq_false hp;have e2:ycL ⟨num,kind,names,v0::v1::v2::v3::v4::v5::v6::r,text⟩=true:=by rw [ycL,hsh,ha,perV,if_neg hp];rfl
      rw [e2];have qe:=aI qR (aI @tN (aI @hpf (aI @h7t (aI @List.map_cons.{0,0} (aI @decide_true (aI @decide_false @xal))))));have jA:=yaS ⟨v0,v1,v2⟩;exact gD2
   .have h7f:((7:Int)<=(vals.length:Int))=False:=eq_false (by omega)
    rw [ycL,hsh,ha,yf1 h7];have qe:=aI qR (aI @h7f @decide_false);exact gD0
def ycK {e:Evt} (h:ycL e=true):e.names.length<=9:=by
 rw [ycL,xap] at h;have h1:=h.1;simp only [bigE,xa6,xbd,decide_eq_false_iff_not] at h1
 omega
def ev_one (L:List Evt):L.all ((λx=>x.cells.all PV.one) ∘ Evt.pv)=true:=by
 rw [xaB];intro x _;rfl
theorem rpB_0 {l:List Lim}:∀ (evs:List Evt) (i:Nat) (b:Bk),zG b=0->((rpB l evs i b).2.2=0->zG (rpB l evs i b).1=0)/\((rpB l evs i b).2.2≠0->(rpB l evs i b).1=bk0)
 | [],i,b,hb=>⟨λ_=>hb,λh=>absurd rfl h⟩
 | e::r,i,b,hb=>by
  rw [rpB]
  by_cases h1:e.num=i+1
  .rw [if_pos h1]
   by_cases h2:(apP b l e).2=0
   .rw [if_pos h2];exact rpB_0 r (i+1) _ (ycF hb h2).1
   .rw [if_neg h2];exact ⟨λh=>absurd h h2,λ_=>rfl⟩
  .rw [if_neg h1];exact ⟨λh=>by simp at h,λ_=>rfl⟩
def yeh (l:List Lim) (evs:List Evt) (hn:l.length*112<=140737488355328):Pure prog 4 [.sl 11 (l.map Lim.pv),.sl 5 (evs.map Evt.pv)] (.b true):=by
 refine pz func4 f4.eq_1 λhw X hX=>?_
 simp only [wfs,PV.wf,xaf,maxLen] at hw;have h15:=pure15 l 3;have h26:=yeM l hn;have h21:=yeN l hn;have h23:=pure23 l
 by_cases hs:¬(yaA l 3=true)
 .have hs':yaA l 3=false:=by simpa using hs
  rw [hs'] at h15;have qe:=aI qR (aI @decide_true (aI @decide_false (aI @xam @xal)));have jA:=h26;have jB:=h15;have jC:=pure1017;exact gD4
 have hs:=Classical.not_not.1 hs;rw [hs] at h15
 by_cases h12:¬(evs.length<=12\/evs.length=1001)
 .have g1:((12:Int) < (evs.length:Int))=True:=eq_true (by omega)
  have g2:((evs.length:Int)=1001)=False:=eq_false (by omega)
  have qe:=aI qR (aI @g1 (aI @g2 (aI @decide_true (aI @decide_false (aI @xam @xal)))));have jA:=h26;have jB:=h15;have jC:=pure1017;exact gD4
 have h12:=Classical.not_not.1 h12;have g0:(decide ((12:Int) < (evs.length:Int)) && !decide ((evs.length:Int)=1001))=false:=by
  rcases h12 with h|h
  .rw [decide_eq_false (by omega)];rfl
  .rw [decide_eq_true (show (evs.length:Int)=1001 by omega)];simp
 have qe:=aI qR (aI @g0 (aI @decide_true (aI @decide_false (aI @xam @xal))));repeat' first|refine gC ?_ ?_<;>intro hc<;>try contradiction|refine za h26 ?_|refine za h15 ?_|refine za pure1017 ?_|refine gG ?_|show AK _;intro J Z|refine gJ ?_|omega|exact aT
 refine zi (κ:=Nat) (λi=>⟨[(0,.p (.sl 11 (l.map Lim.pv))),(1,.p (.sl 5 (evs.map Evt.pv))),(4,.p (.b false)),(28,.p (.sl 5 (evs.map Evt.pv))),(29,.p (.i .i64 evs.length)),(30,.p (.i .i64 i))],[],[],false⟩) (λi=>i<=evs.length/\∀ (j:Nat) (e:Evt),j < i->evs[j]?=some e->ycL e=true) (λi=>evs.length - i) 0 ?_ ?_ ?_
 .exact sS
 .exact ⟨xa5 _,λj e hj=>by omega⟩
 rintro i ⟨hi,hall⟩
 repeat first|refine gG ?_|show AK _;intro J Z|refine gJ ?_|omega|exact aT
 (refine gC ?_ ?_<;>intro hc<;>try contradiction)
 .obtain ⟨e,he⟩:=zm (i:=i) (l:=evs) (by omega)
  have h75:=yeB e
  by_cases q1:¬(ycL e=true)
  .have q1':ycL e=false:=by simpa using q1
   rw [q1'] at h75;have qe:=aI qR (aI @qN (aI @he (aI @decide_true (aI @decide_false (aI @xam @xal)))));have jA:=h75;have jB:=pure1017;exact gD2
  have q1:=Classical.not_not.1 q1;rw [q1] at h75;have qe:=aI qR (aI @qN (aI @he (aI @decide_true (aI @decide_false (aI @xam @xal)))));repeat' first|refine gC ?_ ?_<;>intro hc<;>try contradiction|refine za h75 ?_|refine za pure1017 ?_|refine gG ?_|show AK _;intro J Z|refine gJ ?_|omega|exact aT
  exact ⟨i+1,⟨by omega,λj x hj hx=>by
   by_cases q:j=i
   .subst q;rw [he] at hx;injection hx with hx;subst hx;exact q1
   .exact hall j x (by omega) hx⟩,by omega,by simp⟩
 obtain rfl:i=evs.length:=by omega
 have hN:∀ e ∈ evs,e.names.length<=1000:=λe he=>by
  obtain ⟨j,hj⟩:=xaN.1 he;have:=ycK (hall j e (xaa.1 hj).1 hj);omega
 have h79:=yez l evs (λhc k hk ho=>by
  have hl:evs.length<=12:=by
   rcases h12 with h|h
   .exact h
   .have:=fE0 hc (if 1000 < (evs.length:Int) then 5 else 0) (by simp)
    rw [if_pos (by omega)] at this;omega
  obtain ⟨h1,h2⟩:=ya5 k (by omega) ho
  exact ⟨ya4 h1,by omega⟩) hN
 have hal:=eq_true (ev_one evs);have hbig:((0+evs.length)*88<=140737488355328)=True:=eq_true (by omega)
 by_cases hk:zZ l=0
 .rw [hk] at h23;have h01:=yei l evs hk hN
  by_cases hb:1000 < (evs.length:Int)
  .have hc:rpC l evs=5:=by rw [rpC,za2 hk,zfj,if_pos hb]
   rw [RpB,if_neg (by rw [hc];omega),hc] at h79
   rw [rpR,if_pos hb] at h01;have sA:=ybc bk0 bk0 5 ydU (λ_=>rfl) (λ_=>rfl)
   have qe:=aI qR (aI @qN (aI @hal (aI @hbig (aI @zah (aI @za9 (aI @decide_true (aI @decide_false (aI @xam @xal))))))));have jA:=h21;have jB:=h79;have jC:=h26;have jD:=h23;have jE:=h01;have jF:=sA;have jG:=pure1017;exact gD8
  .have hc:rpC l evs=0:=by rw [rpC,za2 hk,zfj,if_neg hb]
   rw [RpB,if_pos hc] at h79;rw [rpR,if_neg hb] at h01;obtain ⟨v1,v2⟩:=rpB_0 (l:=l) evs 0 bk0 ydV;have hok:zfy (rpB l evs 0 bk0).1:=by
    by_cases q:(rpB l evs 0 bk0).2.2=0
    .exact ya4 (v1 q)
    .rw [v2 q];exact ydU
   have sA:=ybc (rpB l evs 0 bk0).1 (rpB l evs 0 bk0).1 (rpB l evs 0 bk0).2.2 hok (λ_=>rfl) v2
   have qe:=aI qR (aI @qN (aI @hal (aI @hbig (aI @zah (aI @za9 (aI @decide_true (aI @decide_false (aI @xam @xal))))))));have jA:=h21;have jB:=h79;have jC:=h26;have jD:=h23;have jE:=h01;have jF:=sA;have jG:=pure1017;exact gD8
 .have hk':=eq_false hk;have hc:rpC l evs=zZ l:=by rw [rpC,za1 hk]
  rw [RpB,if_neg (by rw [hc];exact hk),hc] at h79
  have s0:=same0 (zZ l) hk;have qe:=aI qR (aI @qN (aI @hal (aI @hbig (aI @hk' (aI @zah (aI @za9 (aI @decide_true (aI @decide_false (aI @xam @xal)))))))));have jA:=h21;have jB:=h79;have jC:=h26;have jD:=h23;have jE:=s0;have jF:=pure1017;exact gD8
open Go.RowKit Go.Proofs.Tryz Go.ChangeShapes Go.WideShapes Go.ChangeAt
def ycT (os:Os) (started:os.Started) (H:Type) (enc:TypeId × Value->H):ReturnsInHanded {} Tryz.checked os 4 .any (Rows.tradeReplaysSpec.pre6 enc prog f4 Rows.tradeReplaysRow.domain false) (Rows.tradeReplaysSpec.post enc prog f4 false true false false):=by
 refine returnsInHanded_of_change_shaped (C:=Tryz.checked) own started (by kernel_rfl) func4
  (ChangeSpec.witness6 (enc:=enc) (C:=Tryz.checked) false ⟨#[],#[.slice none 0 0,.slice none 0 0],[]⟩ 8 (by kernel_rfl) (by kernel_rfl) (by kernel_rfl) (by kernel_rfl)) ?_
 intro W base args ds gs before hval hW _ hsz _ _;refine ybz (C:=Tryz.checked) (n:=6) (tb:=4) laid (by kernel_rfl) rfl (λH ds hd=>?_) (by kernel_rfl) und4 (by kernel_rfl) (λps hps=>?_) W base args ds gs before hval hW hsz
 .match ds,hd with
  | [_,_],_=>rfl
 .match ps,hps with
  | [a0,a1],⟨h0,h1,_⟩=>
   obtain ⟨l,rfl,hn⟩:=ye2 h0;obtain ⟨evs,rfl⟩:=ygj h1;exact yeh l evs hn
def ygs:(Rows.tradeReplaysRow.inPlace == prog.inPlace 4)=true:=by kernel_rfl
def ygr:(Rows.tradeReplaysRow.unfollowed == prog.unfollowed 4)=true:=by kernel_rfl
def ygq:(Rows.tradeReplaysRow.recurses == prog.recurses 4)=true:=by kernel_rfl
def ygp:(Rows.tradeReplaysRow.named == prog.varsNamed 4)=true:=by kernel_rfl
def ygo:Tryz.checked.prog.funcNamed Rows.tradeReplaysRow.func=some 4:=by kernel_rfl
def ygn:joinedFacts prog 4 f4 Rows.tradeReplaysSpec Rows.tradeReplaysRow=true:=
 ydA (by as_aux_lemma=>kernel_rfl) laid rowed (by as_aux_lemma=>kernel_rfl) ygs ygr ygq ygp (by as_aux_lemma=>kernel_rfl) (by as_aux_lemma=>kernel_rfl) (by as_aux_lemma=>kernel_rfl) (by as_aux_lemma=>kernel_rfl) (by as_aux_lemma=>kernel_rfl)
def ygm:f4.isInstance prog Rows.tradeReplaysRow.origin Rows.tradeReplaysRow.targs:=of_decide_eq_true (by kernel_rfl)
def ygl:f4.isWrapper prog Rows.tradeReplaysRow.wrapper Rows.tradeReplaysRow.mainSum:=by
 unfold Func.isWrapper;first|(rw [if_pos (by decide +kernel)];kernel_rfl)|(rw [if_neg (by decide +kernel)];exact ⟨rfl,rfl⟩)
def ybu:Rows.tradeReplaysRow.holds Tryz.pinned (OpenSpec.ofChange Rows.tradeReplaysSpec):=
 OpenClaim.holds_of_wide 4 f4 rfl rfl rfl rfl rfl rfl rfl ⟨rfl,rfl,rfl,rfl,rfl⟩ rfl rfl rfl rfl rfl ygo func4 ygn ygm ygl
  (λos started H enc _=>ycT os started H enc)
theorem replays_proved:Rows.TradeReplaysSaid:=ybu
