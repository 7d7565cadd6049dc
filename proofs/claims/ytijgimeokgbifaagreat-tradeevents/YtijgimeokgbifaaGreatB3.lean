/- Contracts of functions, for the claim. No conditions. -/
import Derived.Test.YtijgimeokgbifaaGreatRows
import Derived.Test.YtijgimeokgbifaaGreatB2
set_option linter.all false
set_option maxHeartbeats 8000000
set_option maxRecDepth 100000
namespace Go.Proofs.YtijgimeokgbifaaGreat
open Go.RowKit Go.Proofs.Tryz
def ye (ks:List Nat) (ag:Bool) (o:RO):Bool:=
 match o.op,o.guard with
 | .mset k a,none=>decide (k=ks) && a == ag
 | _,_=>false
def yaR (ks:List Nat) (ag:Bool) (x:Rec):Option (PV × PV):=
 if ye ks ag x.o=true then (match x.wr with
  | [(_,.mp es _)]=>es.getLast?
  | _=>none) else none
def ybV {ks:List Nat} {ag:Bool} {o:RO} (h:ye ks ag o=true):o.op=.mset ks ag/\o.guard=none:=by
 unfold ye at h
 split at h
 .rename_i k a h1 h2;simp only [xap,decide_eq_true_eq,beq_iff_eq] at h;obtain ⟨rfl,rfl⟩:=h;exact ⟨h1,h2⟩
 .cases h
def yfc {P:Program} {s:St} {o:RO} {v:LV} {wr:List (Nat × LObj)} {ks:List Nat} {ag:Bool} (hi:ye ks ag o=true) (h:zbs P s o v wr) :
  ∃ K key val es,uns (zd s o.args)=[.lm K,.p key,.p val]/\zJ (zd s o.args)=true/\s.look K=some (.mp es false)/\keyOk ks ag key key/\v=.any/\wr=[(K,.mp (mput key val es) false)]:=by
 obtain ⟨h1,h2⟩:=ybV hi;cases h with
 | @ev c pre eff g1 g2 g3 g4 g5=>
  rw [h2] at g1;simp only [gOf,xaR] at g1;subst g1;obtain ⟨q3,q6⟩:=g3 rfl;rw [h1] at g2;unfold zb at g2
  split at g2<;>first|(cases g2;done)|skip
  all_goals try contradiction
  rename_i ks' ag' k key val e1 e2;injection e1 with e1 e3;subst e1;subst e3
  split at g2
  .rename_i es hes;injection g2 with g2;injection g2 with g2 g7;subst g7;subst g2;refine ⟨k,key,val,es,e2,q3,hes,q6.1,?_,rfl⟩;rw [h2];rfl
  .cases g2
 | mv e=>rw [h1] at e;cases e
 | pick e=>rw [h1] at e;cases e
 | callA e=>rw [h1] at e;cases e
 | callB e=>rw [h1] at e;cases e
 | callV e=>rw [h1] at e;cases e
 | callVB e=>rw [h1] at e;cases e
 | callS e=>rw [h1] at e;cases e
 | callSV e=>rw [h1] at e;cases e
 | callN e=>rw [h2] at e;cases e
 | callH e=>rw [h1] at e;cases e
 | appH e=>rw [h1] at e;cases e
def yfb {P:Program} {s:St} {o:RO} {ks:List Nat} {ag:Bool} (hi:ye ks ag o=true) {K:Nat} {key val:PV} {es:List (PV × PV)} (h1:uns (zd s o.args)=[.lm K,.p key,.p val]) (h2:zJ (zd s o.args)=true)
  (h3:s.look K=some (.mp es false)) (h4:keyOk ks ag key key) (h5:keysOk ks ag key es):zbs P s o .any [(K,.mp (mput key val es) false)]:=by
 obtain ⟨e1,e2⟩:=ybV hi;have:zbs P s o (fin o.guard true .any) [(K,.mp (mput key val es) false)]:=.ev (c:=true) (pre:=keyOk ks ag key key/\keysOk ks ag key es) (eff:=⟨.any,some (K,.mp (mput key val es) false),false,[K]⟩) (by rw [e2];rfl) (by rw [e1,h1];simp only [zb,h3]) (λ_=>⟨h2,h4,h5⟩) (λ_=>rfl) (λe=>by cases e)
 rw [e2] at this;exact this
theorem ybT {key v:PV}:∀ (es:List (PV × PV)),(mput key v es).length<=es.length+1/\((mput key v es).length=es.length+1->mput key v es=es++[(key,v)])
 | []=>⟨by simp [mput],λ_=>rfl⟩
 | (k,u)::r=>by
  obtain ⟨h1,h2⟩:=ybT (key:=key) (v:=v) r;rw [mput]
  split
  .exact ⟨by simp,λh=>by simp at h⟩
  .exact ⟨by simpa using h1,λh=>by rw [h2 (by simpa using h)];rfl⟩
theorem ybS {key v:PV}:∀ {es:List (PV × PV)},(∀ a ∈ es,eqCells key.cells a.1.cells=false)->mput key v es=es++[(key,v)]
 | [],_=>rfl
 | (k,u)::r,h=>by
  rw [mput,if_neg (by rw [h (k,u) (by simp)];simp),ybS λa ha=>h a (by simp [ha])];rfl
theorem yaq {ks:List Nat} {ag:Bool} {key:PV}:∀ {es:List (PV × PV)},(∀ a ∈ es,keyOk ks ag key a.1)->keysOk ks ag key es
 | [],_=>trivial
 | (k,u)::r,h=>⟨h (k,u) (by simp),yaq λa ha=>h a (by simp [ha])⟩
def yaP {x:Rec} {K:Nat} (h:K ∉ x.wr.map (·.1)):oW x K=none:=by
 cases hq:oW x K with
 | none=>rfl
 | some b=>exact absurd (zhq (by simpa [oW] using congrArg Option.isSome hq)) h
section
variable {P:Program} {K:Nat} {ks:List Nat} {ag:Bool}
def ch_ins {l:List RO} {s s':St} {rs:List Rec} (h:Ch P l s rs s'):∀ (n m:Nat) (es0 E:List (PV × PV)),ov oW rs n (λj=>decide (j < n+m)) s.look K=some (.mp es0 false)->(∀ j x,rs[j]?=some x->ye ks ag x.o=true->m<=j/\x.wr.map (·.1)=[K]) ->
  (∀ j x,rs[j]?=some x->m<=j->ye ks ag x.o=false->K ∉ x.wr.map (·.1))->s'.look K=some (.mp E false) ->
  E.length<=es0.length+rs.countP (λx=>ye ks ag x.o)/\(E.length=es0.length+rs.countP (λx=>ye ks ag x.o)->E=es0++rs.filterMap (yaR ks ag) /\
   ∀ i x,rs[i]?=some x->ye ks ag x.o=true->∃ (si:St) (key val:PV),(∀ k,si.get k=ov gW rs n (λj=>decide (j < n+i)) s.get k)/\uns (zd si x.o.args)=[.lm K,.p key,.p val]/\zJ (zd si x.o.args)=true/\keyOk ks ag key key/\x.v=.any/\x.wr.map (·.1)=[K]/\yaR ks ag x=some (key,val)):=by
 induction h with
 | nil s=>
  intro n m es0 E h1 h2 h3 h4;simp only [ov] at h1;rw [h1] at h4;injection h4 with h4;injection h4 with h4;subst h4;exact ⟨by simp,λ_=>⟨by simp,λi x hx=>by simp at hx⟩⟩
 | @cons o r s s' v wr rs hs hch ih=>
  intro n m es0 E h1 h2 h3 h4;have hget:∀ i k,ov gW (⟨o,v,wr,rdO s o⟩::rs) n (λj=>decide (j < n+(i+1))) s.get k=ov gW rs (n+1) (λj=>decide (j < n+1+i)) ((s.wrs wr).set o.dst v).get k:=λi k=>by
   simp only [ov];refine zce (λj y hy hw=>by simp only [decide_eq_decide];omega) ?_
   rw [zg9 s ⟨o,v,wr,rdO s o⟩ k];simp
  have hlk:((s.wrs wr).set o.dst v).look K=(oW ⟨o,v,wr,rdO s o⟩ K).getD (s.look K):=ze2 s ⟨o,v,wr,rdO s o⟩ K;cases m with
  | succ m=>
   have hni:ye ks ag o=false:=by
    cases hq:ye ks ag o with
    | false=>rfl
    | true=>have:=(h2 0 ⟨o,v,wr,rdO s o⟩ rfl hq).1;omega
   have h1':ov oW rs (n+1) (λj=>decide (j < n+1+m)) ((s.wrs wr).set o.dst v).look K=some (.mp es0 false):=by
    rw [<-h1];simp only [ov];refine zce (λj y hy hw=>by simp only [decide_eq_decide];omega) ?_
    rw [hlk];simp
   obtain ⟨g1,g2⟩:=ih (n+1) m es0 E h1' (λj x hx hq=>by have:=h2 (j+1) x (by simpa using hx) hq;exact ⟨by omega,this.2⟩) (λj x hx hj hq=>h3 (j+1) x (by simpa using hx) (by omega) hq) h4
   have hc:(⟨o,v,wr,rdO s o⟩::rs:List Rec).countP (λx=>ye ks ag x.o)=rs.countP (λx=>ye ks ag x.o):=by rw [List.countP_cons];simp [hni]
   rw [hc];refine ⟨g1,λhE=>?_⟩
   obtain ⟨g3,g4⟩:=g2 hE;refine ⟨?_,λi x hx hq=>?_⟩
   .rw [g3,xbp];have:yaR ks ag ⟨o,v,wr,rdO s o⟩=none:=by simp [yaR,hni]
    rw [this]
   .cases i with
    | zero=>simp at hx;subst hx;rw [hni] at hq;cases hq
    | succ i=>
     obtain ⟨si,key,val,k1,k2⟩:=g4 i x (by simpa using hx) hq
     exact ⟨si,key,val,λk=>by rw [k1 k,hget i k],k2⟩
  | zero=>
   have hz:∀ (f:Nat->Option LObj),ov oW (⟨o,v,wr,rdO s o⟩::rs) n (λj=>decide (j < n+0)) f K=f K:=λf=>zb1 (λj hj=>by simp;omega)
   rw [hz] at h1;have hz2:∀ (f:Nat->Option LObj),ov oW rs (n+1) (λj=>decide (j < n+1+0)) f K=f K:=λf=>zb1 (λj hj=>by simp;omega)
   cases hni:ye ks ag o with
   | false=>
    have hno:oW ⟨o,v,wr,rdO s o⟩ K=none:=yaP (h3 0 ⟨o,v,wr,rdO s o⟩ rfl (xa5 _) hni);rw [hno] at hlk;simp only [Option.getD_none] at hlk;obtain ⟨g1,g2⟩:=ih (n+1) 0 es0 E (by rw [hz2,hlk,h1]) (λj x hx hq=>⟨xa5 _,(h2 (j+1) x (by simpa using hx) hq).2⟩) (λj x hx hj hq=>h3 (j+1) x (by simpa using hx) (by omega) hq) h4
    have hc:(⟨o,v,wr,rdO s o⟩::rs:List Rec).countP (λx=>ye ks ag x.o)=rs.countP (λx=>ye ks ag x.o):=by rw [List.countP_cons];simp [hni]
    rw [hc];refine ⟨g1,λhE=>?_⟩
    obtain ⟨g3,g4⟩:=g2 hE;refine ⟨?_,λi x hx hq=>?_⟩
    .rw [g3,xbp];have:yaR ks ag ⟨o,v,wr,rdO s o⟩=none:=by simp [yaR,hni]
     rw [this]
    .cases i with
     | zero=>simp at hx;subst hx;rw [hni] at hq;cases hq
     | succ i=>
      obtain ⟨si,key,val,k1,k2⟩:=g4 i x (by simpa using hx) hq
      exact ⟨si,key,val,λk=>by rw [k1 k,hget i k],k2⟩
   | true=>
    obtain ⟨K',key,val,es,e1,e2,e3,e4,e5,e6⟩:=yfc hni hs;have hw:=(h2 0 ⟨o,v,wr,rdO s o⟩ rfl hni).2;have hK:K'=K:=by rw [e6] at hw;simpa using hw
    subst hK;rw [h1] at e3;injection e3 with e3;injection e3 with e3;subst e3;have hno:oW ⟨o,v,wr,rdO s o⟩ K'=some (some (.mp (mput key val es0) false)):=by
     subst e6;simp [oW,zgp]
    rw [hno] at hlk;simp only [xa4] at hlk;obtain ⟨g1,g2⟩:=ih (n+1) 0 (mput key val es0) E (by rw [hz2,hlk]) (λj x hx hq=>⟨xa5 _,(h2 (j+1) x (by simpa using hx) hq).2⟩) (λj x hx hj hq=>h3 (j+1) x (by simpa using hx) (by omega) hq) h4
    have hc:(⟨o,v,wr,rdO s o⟩::rs:List Rec).countP (λx=>ye ks ag x.o)=rs.countP (λx=>ye ks ag x.o)+1:=by rw [List.countP_cons];simp [hni]
    obtain ⟨l1,l2⟩:=ybT (key:=key) (v:=val) es0;rw [hc];refine ⟨by omega,λhE=>?_⟩
    have hm:=l2 (by omega)
    obtain ⟨g3,g4⟩:=g2 (by omega)
    have hen:yaR ks ag ⟨o,v,wr,rdO s o⟩=some (key,val):=by
     simp only [yaR,hni,if_true,e6,hm];simp
    refine ⟨?_,λi x hx hq=>?_⟩
    .rw [g3,xbp,hen,hm];simp
    .cases i with
     | zero=>
      simp at hx;subst hx;refine ⟨s,key,val,λk=>(zb1 (λj hj=>by simp;omega)).symm,e1,e2,e4,e5,hw,hen⟩
     | succ i=>
      obtain ⟨si,key,val,k1,k2⟩:=g4 i x (by simpa using hx) hq
      exact ⟨si,key,val,λk=>by rw [k1 k,hget i k],k2⟩
end
def cfM (ks:List Nat) (ag:Bool) (x y:Rec):Bool:=if (ye ks ag x.o && ye ks ag y.o)=true then (zdq x.wT y.rT || zdq x.wT y.wT || zdq x.rT y.wT) else cf x y
def oWn (ks:List Nat) (ag:Bool) (x:Rec) (k:Nat):Option (Option LObj):=if ye ks ag x.o=true then none else oW x k
def DD (a b:PV × PV):Prop:=eqCells a.1.cells b.1.cells=false/\eqCells b.1.cells a.1.cells=false
def DD.symm {a b:PV × PV} (h:DD a b):DD b a:=⟨h.2,h.1⟩
theorem ov_W {β:Type} {W W':Rec->Nat->Option β} {S T:Nat->Bool} {k:Nat}:∀ {rs:List Rec} {n:Nat} {f f':Nat->β},(∀ j x,rs[j]?=some x->(if S (n+j)=true then W x k else none)=(if T (n+j)=true then W' x k else none))->f k=f' k->ov W rs n S f k=ov W' rs n T f' k
 | [],n,f,f',_,hf=>hf
 | x::xs,n,f,f',h,hf=>by
  simp only [ov];refine ov_W (λj y hy=>?_) ?_
  .have:=h (j+1) y (by simpa using hy)
   rw [show n+1+j=n+(j+1) by omega];exact this
  .have:=h 0 x rfl;simp only [xbK] at this;have e:∀ (c:Bool) (o:Option β) (b:β),(if c=true then o.getD b else b)=(if c=true then o else none).getD b:=λc o b=>by cases c<;>rfl
   rw [e,e,this,hf]
def cfM_T {ks:List Nat} {ag:Bool} {x y:Rec} {k:Nat} (h1:k ∈ x.wT) (h2:k ∈ y.rT\/k ∈ y.wT):cfM ks ag x y=true/\cfM ks ag y x=true:=by
 have h:=cf_T h1 h2;unfold cfM
 constructor
 .split
  .rcases h2 with h2|h2<;>simp [zbw h1 h2]
  .exact h.1
 .split
  .rcases h2 with h2|h2<;>simp [zbw h2 h1]
  .exact h.2
def yfo {ks:List Nat} {ag:Bool} {x y:Rec} {k:Nat} (hn:ye ks ag x.o=false\/ye ks ag y.o=false) (h1:k ∈ x.wO) (h2:k ∈ y.ro\/k ∈ y.wO):cfM ks ag x y=true/\cfM ks ag y x=true:=by
 have h:=cf_O h1 h2;unfold cfM;rw [if_neg (by rcases hn with e|e<;>simp [e]),if_neg (by rcases hn with e|e<;>simp [e])]
 exact h
def PermM.trans {a b c:List (PV × PV)} (h:PermM a b) (k:PermM b c):PermM a c:=by
 rcases h with rfl|⟨h1,h2,h3⟩
 .exact k
 .rcases k with rfl|⟨k1,k2,k3⟩
  .exact .inr ⟨h1,h2,h3⟩
  .exact .inr ⟨h1.trans k1,k2,k3⟩
def RelC.mperm {X:Fx} {C:Ctx} {g:Nat->LV} {l:Nat->Option LObj} {tr:List (List PV)} {stop:Bool} {a:Act} {w:World} {K:Nat} {es E:List (PV × PV)} (h:RelC X C g l tr stop a w) (hk:l K=some (.mp es true)) (hp:PermM es E) :
  RelC X C g (upd l K (some (.mp E true))) tr stop a w:=by
 have hl1:∀ j o,upd l K (some (LObj.mp E true)) j=some o->(j=K/\o=.mp E true)\/l j=some o:=λj o hj=>by
  by_cases ej:j=K
  .subst ej;rw [zg] at hj;injection hj with hj;exact .inl ⟨rfl,hj.symm⟩
  .rw [zt _ _ ej] at hj;exact .inr hj
 have hrows:∀ j e1 sz1 xs1 fz1 e' sz' xs' fz',l j=some (.row e1 sz1 xs1 fz1)->upd l K (some (LObj.mp E true)) j=some (.row e' sz' xs' fz')->e'=e1/\sz'=sz1/\xs'.length=xs1.length:=λj e1 sz1 xs1 fz1 e' sz' xs' fz' h1 h2=>by
  rcases hl1 j _ h2 with ⟨_,h3⟩|h3
  .cases h3
  .rw [h1] at h3;injection h3 with h3;injection h3 with f1 f2 f3 f4;subst f1;subst f2;subst f3;exact ⟨rfl,rfl,rfl⟩
 have hsc:∀ q,LV.Sc l q->LV.Sc (upd l K (some (.mp E true))) q:=λq hq=>hq.follows (zdb hk (show (LObj.mp es true).Follows (.mp E true) from trivial))
 refine h.desc (λj o hj=>?_) (λj o hj=>?_) λt=>⟨(h.env t).desc hrows (h.envs t),hsc _ (h.envs t)⟩
 .rcases hl1 j o hj with ⟨rfl,rfl⟩|h1
  .exact ⟨_,hk,rfl,rfl⟩
  .exact ⟨o,h1,rfl,rfl⟩
 .rcases hl1 j o hj with ⟨rfl,rfl⟩|h1
  .obtain ⟨ents,clock,fs,k1,k0,k2,k3⟩:=h.obj j _ hk;exact ⟨⟨ents,clock,fs,k1,.inr ⟨rfl,PermM.trans (k0.elim .inl (·.2)) hp⟩,k2,k3⟩,trivial⟩
  .refine ⟨(h.obj j o h1).look (h.objs j o h1) hrows,?_⟩;have:=h.objs j o h1;cases o<;>simp only [LObj.Sc] at this ⊢
   exact λi q hq=>hsc q (this i q hq)
def yd3 {P:Program} {ro:Option Nat} {X:Fx} {ops:Array Oper} (hM:X.MOk) {L:List RO} {rs:List Rec} {s s':St} (hch:Ch P L s rs s') (hcomp:zaH P X.N ops ops.toList=some L) (ks:List Nat) (ag:Bool) (K m:Nat)
  (hlt:∀ (j:Nat) (y:Rec),rs[j]?=some y->∀ e ∈ y.o.after,e < j) (hcf:∀ (i j:Nat) (x y:Rec),i < j->rs[i]?=some x->rs[j]?=some y->cfM ks ag x y=true->dep 0 rs 3 i j=true)
  (hins:∀ (j:Nat) (x:Rec),rs[j]?=some x->ye ks ag x.o=true->m<=j/\x.wr.map (·.1)=[K]) (hnon:∀ (j:Nat) (x:Rec),rs[j]?=some x->m<=j->ye ks ag x.o=false->K ∉ x.ro/\K ∉ x.wO)
  (hm:ov oW rs 0 (λj=>decide (j < 0+m)) s.look K=some (.mp [] false)) {E:List (PV × PV)} (hE:s'.look K=some (.mp E false)) (hEl:E.length=rs.countP (λx=>ye ks ag x.o)) (hst:∀ a ∈ E,∃ b,a.1=.s b) (hD:E.Pairwise DD) (hk:∀ a ∈ E,∀ b ∈ E,keyOk ks ag a.1 b.1)
  {QX:Exit->Act->World->Prop} (hQ:∀ C a w,RelC X C s'.get (upd s'.look K (some (.mp E true))) s'.tr s'.stop a w->QX .normal a w) :
  ∀ (fuel:Nat) (listed:Array Bool) (a:Act) (w:World),listed.size=ops.size->zg3 listed ops.size<=fuel->(∀ j,j < 0->listed.getD j false=true)->(∀ j,0+L.length<=j->listed.getD j false=false)->(∀ j o,L[j]?=some o->listed.getD j false=true->∀ e ∈ o.after,listed.getD e false=true) ->
  (∃ (C:Ctx) (σ:St) (es:List (PV × PV)),RelC X C σ.get σ.look σ.tr σ.stop a w/\σ.tr=s.tr/\σ.stop=s.stop/\(∀ k,σ.get k=ov gW rs 0 (λj=>listed.getD j false) s.get k)/\(∀ k,k≠K->σ.look k=ov oW rs 0 (λj=>listed.getD j false) s.look k) /\
   es.Pairwise DD/\(∀ p,p ∈ es↔∃ j x,rs[j]?=some x/\listed.getD j false=true/\yaR ks ag x=some p)/\((es≠[]/\σ.look K=some (.mp es false))\/(es=[]/\σ.look K=ov (oWn ks ag) rs 0 (λj=>listed.getD j false) s.look K))) ->
  wpAnyIn (zaa ro) 0 P .any ops QX fuel listed a w:=by
 obtain ⟨hlen,htr,hst1,hget,hlook⟩:=zyn hch 0;have hnw:∀ (j:Nat) (x:Rec),rs[j]?=some x->m<=j->ye ks ag x.o=false->K ∉ x.wr.map (·.1):=λj x hx hj hi h=>(hnon j x hx hj hi).2 (xaL _ h)
 obtain ⟨hEe,hat0⟩:=(ch_ins hch 0 m [] E hm hins hnw hE).2 (by simpa using hEl)
 rw [xaP] at hEe;have hmem:∀ p,p ∈ E↔∃ j x,rs[j]?=some x/\yaR ks ag x=some p:=λp=>by
  rw [hEe,List.mem_filterMap]
  constructor
  .rintro ⟨x,hx,h⟩;obtain ⟨j,hj⟩:=xaN.1 hx;exact ⟨j,x,hj,h⟩
  .rintro ⟨j,x,hj,h⟩;exact ⟨x,xad hj,h⟩
 have hpair:∀ (i j:Nat) (x y:Rec) (p q:PV × PV),i≠j->rs[i]?=some x->rs[j]?=some y->yaR ks ag x=some p->yaR ks ag y=some q->DD p q:=by
  have h1:=hD;rw [hEe,List.pairwise_filterMap] at h1;have h2:=xaW.1 h1;have key:∀ (i j:Nat) (x y:Rec) (p q:PV × PV),i < j->rs[i]?=some x->rs[j]?=some y->yaR ks ag x=some p->yaR ks ag y=some q->DD p q:=λi j x y p q hij hx hy hp hq=>by
   obtain ⟨g1,g2⟩:=xaa.1 hx;obtain ⟨g3,g4⟩:=xaa.1 hy;exact h2 i j g1 g3 hij p (by rw [g2];exact hp) q (by rw [g4];exact hq)
  intro i j x y p q hne hx hy hp hq
  rcases Nat.lt_or_gt_of_ne hne with h|h
  .exact key i j x y p q h hx hy hp hq
  .exact (key j i y x q p h hy hx hq hp).symm
 have hentI:∀ x p,yaR ks ag x=some p->ye ks ag x.o=true:=λx p h=>by
  unfold yaR at h
  split at h
  .assumption
  .cases h
 have hbase:∀ S:Nat->Bool,(∀ j y,rs[j]?=some y->j < m->(oW y K).isSome=true->S j=true)->ov (oWn ks ag) rs 0 S s.look K=some (.mp [] false):=λS hS=>by
  rw [<-hm];refine ov_W (λj y hy=>?_) rfl
  simp only [xbc,decide_eq_true_eq];cases hi:ye ks ag y.o with
  | true=>
   have:=(hins j y hy hi).1;rw [if_neg (show ¬j < m by omega)]
   simp [oWn,hi]
  | false=>
   have e1:oWn ks ag y K=oW y K:=by simp [oWn,hi]
   rw [e1]
   by_cases hj:j < m
   .rw [if_pos hj];cases hq:oW y K with
    | none=>simp
    | some b=>rw [if_pos (hS j y hy hj (by rw [hq];rfl))]
   .rw [if_neg hj,yaP (hnw j y hy (by omega) hi)];simp
 have hrec:∀ (i:Nat),i < L.length->∃ x,rs[i]?=some x/\L[i]?=some x.o:=λi hi=>by
  have hx:=xab (l:=rs) (i:=i) (by omega)
  obtain ⟨si,g1,_⟩:=zyo hch 0 i _ hx;exact ⟨_,hx,g1⟩
 refine zr1 hcomp (by omega) (λi o _ h2 h3 e he=>?_) (λS _ _ i o h1 h2=>?_) (I:=λS a w=>∃ (C:Ctx) (σ:St) (es:List (PV × PV)),RelC X C σ.get σ.look σ.tr σ.stop a w/\σ.tr=s.tr/\σ.stop=s.stop/\(∀ k,σ.get k=ov gW rs 0 S s.get k)/\(∀ k,k≠K->σ.look k=ov oW rs 0 S s.look k) /\
   es.Pairwise DD/\(∀ p,p ∈ es↔∃ j x,rs[j]?=some x/\S j=true/\yaR ks ag x=some p)/\((es≠[]/\σ.look K=some (.mp es false))\/(es=[]/\σ.look K=ov (oWn ks ag) rs 0 S s.look K))) ?_ ?_
 .obtain ⟨x,hx,hLx⟩:=hrec i (by omega)
  rw [h3] at hLx;injection hLx with hLx;exact hlt i x hx e (by rw [<-hLx];exact he)
 .have:=(xaa.1 h2).1;omega
 .rintro fuel listed a w hs hl hd ⟨C,σ,es,h,h1,h2,h3,h4,h5,h6,h7⟩;have hj:∀ j x,rs[j]?=some x->listed.getD j false=true:=λj x hx=>by
   have:=(xaa.1 hx).1;rw [hd];exact decide_eq_true (by omega)
  have hK:σ.look K=some (.mp es false):=by
   rcases h7 with ⟨_,h7⟩|⟨e,h7⟩
   .exact h7
   .rw [h7,e];exact hbase _ λj y hy _ _=>hj j y hy
  have hme:∀ p,p ∈ es↔p ∈ E:=λp=>by
   rw [h6,hmem];exact ⟨λ⟨j,x,g1,_,g2⟩=>⟨j,x,g1,g2⟩,λ⟨j,x,g1,g2⟩=>⟨j,x,g1,hj j x g1,g2⟩⟩
  have hse:∀ a ∈ es,∃ b,a.1=.s b:=λa ha=>hst a ((hme a).1 ha)
  have hnd:∀ {l:List (PV × PV)},(∀ a ∈ l,∃ b,a.1=.s b)->l.Pairwise DD->(l.map (·.1)).Nodup:=fun {l} hs hd=>
   xcn.2 (hd.imp_of_mem fun {a b} ha _ hab e=>by
    obtain ⟨k,hk⟩:=hs a ha;have:=hab.1;rw [<-e,hk] at this;simp [PV.cells,eqCells,eqPV] at this)
  have hnn:∀ {l:List (PV × PV)},(l.map (·.1)).Nodup->l.Nodup:=fun {l} h=>(xcn.1 h).imp λh e=>h (by rw [e])
  have g1:=hnd hse h5;have g2:=hnd hst hD;have hr:=(h.freeze hK rfl hM).mperm (zg _ _ _) (.inr ⟨(List.perm_ext_iff_of_nodup (hnn g1) (hnn g2)).2 hme,hst,g2⟩);rw [show σ.get=s'.get from funext λk=>by rw [h3 k,hget k];exact zce (λj x hx _=>by rw [xbc];exact hj j x hx) rfl,
   show upd (upd σ.look K (some (LObj.mp es false).freeze)) K (some (LObj.mp E true))=upd s'.look K (some (.mp E true)) from funext λk=>by
    simp only [upd]
    by_cases e:k=K
    .rw [if_pos e,if_pos e]
    .rw [if_neg e,if_neg e,if_neg e,h4 k e,hlook k];exact zce (λj x hx _=>by rw [xbc];exact hj j x hx) rfl,h1,h2,<-htr,<-hst1] at hr
  have hno:Region.ready .any ops listed=[]:=xbB.2 λi hi=>by
   obtain ⟨oper,k1,k2,_⟩:=zaZ.1 hi;obtain ⟨hcl,_⟩:=zaV hcomp;have hlt:=(xa1.1 k1).1;have:=hd i;rw [xan,xav (by omega)] at this k2
   simp only [xa4] at this k2;simp at hcl;rw [k2,eq_comm,decide_eq_false_iff_not] at this;omega
  cases fuel with
  | zero=>exact ⟨hno,hQ _ a w hr⟩
  | succ n=>exact ⟨λ_=>hQ _ a w hr,λi hi=>by rw [hno] at hi;cases hi⟩
 rintro S S' a w oper o ii hii hLo hcx hun haf hc hS ⟨C,σ,es,hrel,e1,e2,e3,e4,e5,e6,e7⟩ Kf hKf;rw [xbc] at hLo;obtain ⟨x,hx,hLx⟩:=hrec ii hii;rw [hLo] at hLx;injection hLx with hLx;subst hLx;obtain ⟨si,_,k2,k3,k4,k5⟩:=zyo hch 0 ii x hx;have hcR:∀ j y,rs[j]?=some y->S (0+j)=true->∀ e ∈ y.o.after,S e=true:=λj y hy hj=>by
  obtain ⟨y',hy',hLy⟩:=hrec j (by rw [<-hlen];exact (xaa.1 hy).1)
  rw [hy] at hy';injection hy' with hy';subst hy';exact hc j _ hLy (by rw [xbc] at hj;exact hj)
 have hbef:=fun {j y}=>zts (j:=j) (y:=y) hcf hcR hx haf hun
 have hgs:∀ j,S' j=if j=ii then true else S j:=λj=>by rw [hS,xbc]
 rw [xbc] at hun;have hT:∀ k,k ∈ x.rT\/k ∈ x.wT->∀ j y,rs[j]?=some y->(gW y k).isSome=true->S (0+j)=decide (j < ii):=λk hk j y hy hw=>hbef hy (cfM_T (zs2 hw) hk)
 have aT:∀ k,k ∈ x.rT\/k ∈ x.wT->σ.get k=si.get k:=λk hk=>by
  rw [e3 k,k4 k];exact zce (λj y hy hw=>by rw [hT k hk j y hy hw];simp only [decide_eq_decide];omega) rfl
 have hGet:∀ (wr':List (Nat × LObj)) k,((σ.wrs wr').set x.o.dst x.v).get k=ov gW rs 0 S' s.get k:=λwr' k=>by
  rw [zg9 σ ⟨x.o,x.v,wr',x.ro⟩ k];show (gW x k).getD (σ.get k)=_;exact zmW hx hS (e3 k) λh=>hT k (.inr (zs2 h))
 cases hi2:ye ks ag x.o with
 | true=>
  obtain ⟨sj,key,val,q1,q2,q3,q4,q5,q6,q7⟩:=hat0 ii x hx hi2;have hKx:K ∈ x.wO:=xaL _ (by rw [q6];simp)
  have hmi:=(hins ii x hx hi2).1;have hKl:σ.look K=some (.mp es false):=by
   rcases e7 with ⟨_,h7⟩|⟨e,h7⟩
   .exact h7
   .rw [h7,e];refine hbase _ λj y hy hjm hw=>?_
    have hyn:ye ks ag y.o=false:=by
     cases hq:ye ks ag y.o with
     | false=>rfl
     | true=>have:=(hins j y hy hq).1;omega
    have:=hbef hy (yfo (.inl hyn) (zsV hw) (.inr hKx));rw [xbc] at this;rw [this];simp;omega
  have hraw:zd σ x.o.args=zd sj x.o.args:=xbW λz hz=>by
   cases z with
   | t n=>
    have h1:=aT n (.inl (xaY _ (xaC.2 ⟨_,hz,by simp [AOpd.tmps]⟩)))
    show σ.get n=sj.get n;rw [h1,q1 n,k4 n]
   | c v=>rfl
  have hp:(key,val) ∈ E:=(hmem _).2 ⟨ii,x,hx,q7⟩;have hes:∀ a ∈ es,a ∈ E/\DD (key,val) a:=λa ha=>by
   obtain ⟨j,y,h1,h2,h3⟩:=(e6 a).1 ha;refine ⟨(hmem _).2 ⟨j,y,h1,h3⟩,hpair ii j x y _ _ (λe=>?_) hx h1 q7 h3⟩
   rw [<-e,hun] at h2;cases h2
  have hsem:zbs P σ x.o x.v [(K,.mp (mput key val es) false)]:=by
   rw [q5];exact yfb hi2 (by rw [hraw];exact q2) (by rw [hraw];exact q3) hKl q4 (yaq λa ha=>hk _ hp _ (hes a ha).1)
  rw [ybS λa ha=>(hes a ha).2.1] at hsem
  refine zb3 (X:=X) (s:=σ) hsem hcx rfl hM hrel λC' a' w' hr'=>hKf a' w' ⟨C',(σ.wrs [(K,.mp (es++[(key,val)]) false)]).set x.o.dst x.v,es++[(key,val)],?_,?_,?_,hGet _,λk hkK=>?_,?_,λp=>?_,.inl ⟨by simp,?_⟩⟩
  .rw [(z7 _ _ _).1,(zbf _ _).1,(z7 _ _ _).2,(zbf _ _).2];exact hr'
  .rw [(z7 _ _ _).1,(zbf _ _).1];exact e1
  .rw [(z7 _ _ _).2,(zbf _ _).2];exact e2
  .have hw0:oW x k=none:=yaP (by rw [q6];simpa using hkK)
   rw [ze2 σ ⟨x.o,x.v,[(K,.mp (es++[(key,val)]) false)],x.ro⟩ k,yaP (by simpa using hkK)]
   have:=zmW (W:=oW) (k:=k) hx hS (e4 k hkK) λh=>by rw [hw0] at h;cases h
   rw [hw0] at this;exact this
  .rw [xba];refine ⟨e5,by simp,λa ha b hb=>?_⟩
   rw [xaJ.1 hb];exact (hes a ha).2.symm
  .rw [xaD,e6,xaJ]
   constructor
   .rintro (⟨j,y,h1,h2,h3⟩|rfl)
    .exact ⟨j,y,h1,by rw [hgs];split<;>first|rfl|exact h2,h3⟩
    .exact ⟨ii,x,hx,by rw [hgs,if_pos rfl],q7⟩
   .rintro ⟨j,y,h1,h2,h3⟩;rw [hgs] at h2
    by_cases ej:j=ii
    .subst ej;rw [hx] at h1;injection h1 with h1;subst h1;rw [q7] at h3;injection h3 with h3;exact .inr h3.symm
    .rw [if_neg ej] at h2;exact .inl ⟨j,y,h1,h2,h3⟩
  .rw [ze2 σ ⟨x.o,x.v,[(K,.mp (es++[(key,val)]) false)],x.ro⟩ K];simp [oW,zgp]
 | false=>
  have hO:∀ k,k ∈ x.ro\/k ∈ x.wO->∀ j y,rs[j]?=some y->(oW y k).isSome=true->S (0+j)=decide (j < ii):=λk hk j y hy hw=>hbef hy (yfo (.inr hi2) (zsV hw) hk)
  have e1n:∀ {y:Rec},ye ks ag y.o=false->oWn ks ag y K=oW y K:=λh=>by simp [oWn,h]
  have hK0:K ∈ x.ro\/K ∈ x.wO->ii < m/\es=[]/\ov (oWn ks ag) rs 0 S s.look K=si.look K:=λhk=>by
   have him:ii < m:=Nat.not_le.1 λh=>by
    obtain ⟨h1,h2⟩:=hnon ii x hx h hi2;exact hk.elim h1 h2
   refine ⟨him,xbB.2 λp hp=>?_,?_⟩
   .obtain ⟨j,y,h1,h2,h3⟩:=(e6 p).1 hp;have hyi:=hentI y p h3;obtain ⟨hmj,hwj⟩:=hins j y h1 hyi;have:=hbef h1 (yfo (.inr hi2) (xaL _ (by rw [hwj];simp)) hk)
    rw [xbc] at this;rw [this] at h2;simp at h2;omega
   .rw [k5 K];refine ov_W (λj y hy=>?_) rfl
    cases hyi:ye ks ag y.o with
    | true=>
     have:=(hins j y hy hyi).1;rw [if_neg (show ¬decide (0+j < 0+ii)=true by simp;omega)]
     simp [oWn,hyi]
    | false=>
     rw [e1n hyi];cases hq:oW y K with
     | none=>simp
     | some b=>rw [hO K hk j y hy (by rw [hq];rfl)];simp
  have aO:∀ k,k ∈ x.ro\/k ∈ x.wO->σ.look k=si.look k:=λk hk=>by
   by_cases e:k=K
   .subst e;obtain ⟨h1,h2,h3⟩:=hK0 hk
    rcases e7 with ⟨h7,_⟩|⟨_,h7⟩
    .exact absurd h2 h7
    .rw [h7,h3]
   .rw [e4 k e,k5 k];exact zce (λj y hy hw=>by rw [hO k hk j y hy hw];simp only [decide_eq_decide];omega) rfl
  have hsem:zbs P σ x.o x.v x.wr:=zjc k2 (λt ht=>aT t (.inl ht)) (λk hk=>aO k (.inl (by rw [k3];exact hk))) (aO _ (.inr xar)) (λk hk=>aO k (.inr (xaL _ hk)))
  have hnent:yaR ks ag x=none:=by simp [yaR,hi2]
  refine zb3 (X:=X) (s:=σ) hsem hcx rfl hM hrel λC' a' w' hr'=>hKf a' w' ⟨C',(σ.wrs x.wr).set x.o.dst x.v,es,?_,?_,?_,hGet _,λk hkK=>?_,e5,λp=>?_,?_⟩
  .rw [(z7 _ _ _).1,(zbf _ _).1,(z7 _ _ _).2,(zbf _ _).2];exact hr'
  .rw [(z7 _ _ _).1,(zbf _ _).1];exact e1
  .rw [(z7 _ _ _).2,(zbf _ _).2];exact e2
  .rw [ze2 σ x k];exact zmW hx hS (e4 k hkK) λh=>hO k (.inr (zsV h))
  .rw [e6]
   constructor
   .rintro ⟨j,y,h1,h2,h3⟩;exact ⟨j,y,h1,by rw [hgs];split<;>first|rfl|exact h2,h3⟩
   .rintro ⟨j,y,h1,h2,h3⟩;rw [hgs] at h2
    by_cases ej:j=ii
    .subst ej;rw [hx] at h1;injection h1 with h1;subst h1;rw [hnent] at h3;cases h3
    .rw [if_neg ej] at h2;exact ⟨j,y,h1,h2,h3⟩
  .rw [ze2 σ x K];cases hw:oW x K with
   | none=>
    have:=zmW (W:=oWn ks ag) (f:=s.look) (k:=K) hx hS rfl λh=>by rw [e1n hi2,hw] at h;cases h
    rw [e1n hi2,hw] at this;rw [<-this];exact e7
   | some v=>
    have hkw:K ∈ x.wO:=zsV (by rw [hw];rfl)
    obtain ⟨him,hes,_⟩:=hK0 (.inr hkw);refine .inr ⟨hes,?_⟩;have:=zmW (W:=oWn ks ag) (f:=s.look) (k:=K) hx hS rfl λ_ j y hy hwy=>by
     cases hyi:ye ks ag y.o with
     | true=>simp [oWn,hyi] at hwy
     | false=>rw [e1n hyi] at hwy;exact hO K (.inr hkw) j y hy hwy
    rw [e1n hi2,hw] at this;exact this
def cfFM (both:Bool) (x y:Ft):Bool:=if both=true then (zdq x.wt y.rt || zdq x.wt y.wt || zdq x.rt y.wt) else cfF x y
def isMk (K:Nat) (o:RO):Bool:=match o.op,o.guard,o.dst with
 | .mkmap,none,some d=>d == K
 | _,_,_=>false
def yaS (ks : List Nat) (ag : Bool) (K m : Nat) (l : List RO) (fs : List Ft) : Bool :=
  decide (1 <= m) && (match l[m - 1]? with | some o => isMk K o | none => false) &&
  (List.range fs.length).all λj => match fs[j]?, l[j]? with
    | some y, some oy => !y.yl && (y.af.all λe => decide (e < j)) && (if ye ks ag oy then decide (m <= j) && (y.wo.tail == [K]) else decide (j < m) || (!y.ro.contains K && !y.wo.contains K)) &&
      (List.range j).all λi => match fs[i]?, l[i]? with
        | some x, some ox => !cfFM (ye ks ag ox && ye ks ag oy) x y || zr6 fs 3 i j
        | _, _ => true
    | _, _ => false
def repF (n j:Nat):(Array.replicate n false).getD j false=false:=by
 rw [xan]
 by_cases e:j < n
 .rw [xav (by simpa using e)];simp
 .rw [Array.getElem?_eq_none (by simpa using e)];simp
def ye9 {K:Nat} {o:RO} (h:isMk K o=true):o.op=.mkmap/\o.guard=none/\o.dst=some K:=by
 unfold isMk at h
 split at h
 .rename_i d h1 h2 h3;exact ⟨h1,h2,by rw [h3];simpa using h⟩
 .cases h
def mk_inv {P:Program} {s:St} {o:RO} {v:LV} {wr:List (Nat × LObj)} {K:Nat} (hi:isMk K o=true) (h:zbs P s o v wr):wr=[(K,.mp [] false)]:=by
 obtain ⟨h1,h2,h3⟩:=ye9 hi;cases h with
 | @ev c pre eff g1 g2 g3 g4 g5=>
  rw [h1,h3] at g2;unfold zb at g2
  split at g2<;>first|(cases g2;done)|skip
  all_goals try contradiction
  injection g2 with g2;injection g2 with g2 g7;subst g7;rfl
 | mv e=>rw [h1] at e;cases e
 | pick e=>rw [h1] at e;cases e
 | callA e=>rw [h1] at e;cases e
 | callB e=>rw [h1] at e;cases e
 | callV e=>rw [h1] at e;cases e
 | callVB e=>rw [h1] at e;cases e
 | callS e=>rw [h1] at e;cases e
 | callSV e=>rw [h1] at e;cases e
 | callN e=>rw [h2] at e;cases e
 | callH e=>rw [h1] at e;cases e
 | appH e=>rw [h1] at e;cases e
def ycf {ks:List Nat} {ag:Bool} {K m:Nat} {l:List RO} {fs:List Ft} (h:yaS ks ag K m l fs=true) :
  1<=m/\(∃ o,l[m - 1]?=some o/\isMk K o=true)/\∀ j y,fs[j]?=some y->∃ oy,l[j]?=some oy/\(∀ e ∈ y.af,e < j)/\(ye ks ag oy=true->m<=j/\y.wo.tail=[K])/\(ye ks ag oy=false->m<=j->K ∉ y.ro/\K ∉ y.wo) /\
   ∀ i x ox,i < j->fs[i]?=some x->l[i]?=some ox->cfFM (ye ks ag ox && ye ks ag oy) x y=true->zr6 fs 3 i j=true:=by
 simp only [yaS,xap,decide_eq_true_eq,xaB,xaV] at h;obtain ⟨⟨h1,h2⟩,h3⟩:=h;refine ⟨h1,?_,λj y hy=>?_⟩
 .split at h2
  .rename_i o ho;exact ⟨o,ho,h2⟩
  .cases h2
 .have hj:j < fs.length:=(xaa.1 hy).1;have h4:=h3 j hj;rw [hy] at h4;cases hl:l[j]? with
  | none=>simp [hl] at h4
  | some oy=>
   simp only [hl,xap,xaB,decide_eq_true_eq,xaV] at h4;obtain ⟨⟨⟨_,h5⟩,h6⟩,h7⟩:=h4;refine ⟨oy,rfl,h5,λhi=>?_,λhi hm=>?_,λi x ox hij hx hox hc=>?_⟩
   .rw [if_pos hi] at h6;simpa using h6
   .rw [if_neg (by rw [hi];simp)] at h6
    simp only [xa3,decide_eq_true_eq,xap,xa6,List.contains_eq_mem,decide_eq_false_iff_not] at h6;exact h6.resolve_left (by omega)
   .have h8:=h7 i hij;rw [hx,hox] at h8;simpa [hc] using h8
def ycr {G:Cfg} {s:St} {Q:zN} {l:List RO} (ks:List Nat) (ag:Bool) (K m:Nat) (hm:G.P.follows .mixedOrders=true) (hts:G.ts=[])
  (h:∀ Kf:St->List Ft->Prop,(∀ s' acc,yaS ks ag K m l acc.reverse=true->(∃ E,s'.look K=some (.mp E false)/\E.length=l.countP (ye ks ag)/\(∀ a ∈ E,∃ b,a.1=.s b)/\E.Pairwise DD/\(∀ a ∈ E,∀ b ∈ E,keyOk ks ag a.1 b.1)/\Q .normal (s'.wr K (.mp E true)))->Kf s' acc) ->
   zD true (zh G.P G.ts true Kf) l s []):Run G (.ops true l) s Q:=by
 intro hG code hc C a w hr;cases code<;>simp only [zC,xac] at hc
 case region id ops draw=>
  obtain ⟨l',h1,hc⟩:=hc;injection hc with e1 e2;subst e1;subst e2;have hrun:=zF (h (λs' acc=>yaS ks ag K m l' acc.reverse=true/\∃ E,s'.look K=some (.mp E false)/\E.length=l'.countP (ye ks ag)/\(∀ a ∈ E,∃ b,a.1=.s b)/\E.Pairwise DD/\(∀ a ∈ E,∀ b ∈ E,keyOk ks ag a.1 b.1)/\Q .normal (s'.wr K (.mp E true))) λs acc h1 h2=>⟨h1,h2⟩)
  have hb:Below w.heap.size w { w with drawn:=w.drawn+1 }:=⟨rfl,rfl,rfl,xaj _,λ_ _=>rfl⟩
  have hr1:=hr.grow hb C.B (λ_ h=>h) (λb hb=>.inl hb)
  refine wpIn_region_any hm ?_
  rcases zcp hrun with ⟨rs,s',hch,hok,E,hE,hEl,hst,hD,hk,hQ⟩|⟨l1,o,l2,rs,s1,t,ks',he,hch,hyo,hrest⟩
  .rw [xat,List.reverse_reverse] at hok;obtain ⟨h1m,⟨om,hom,hmk⟩,hj⟩:=ycf hok;obtain ⟨c1,c2⟩:=ztb hch;have hft:∀ (j:Nat) (x:Rec),rs[j]?=some x->(rs.map Rec.ft)[j]?=some x.ft:=λj x hx=>by simp [hx]
   have hlo:∀ (j:Nat) (x:Rec),rs[j]?=some x->l'[j]?=some x.o:=λj x hx=>by
    obtain ⟨si,g1,_⟩:=zyo hch 0 j x hx;exact g1
   have hcnt:l'.countP (ye ks ag)=rs.countP (λx=>ye ks ag x.o):=by
    have:l'=rs.map (·.o):=by
     refine xbV λi=>?_
     rw [xah];cases hq:rs[i]? with
     | none=>
      have:=List.getElem?_eq_none_iff.1 hq;simp;omega
     | some x=>rw [hlo i x hq];rfl
    rw [this,List.countP_map];rfl
   have hat:∀ (j:Nat) (x:Rec),rs[j]?=some x->(∀ e ∈ x.o.after,e < j)/\(ye ks ag x.o=true->m<=j/\x.ft.wo.tail=[K])/\(ye ks ag x.o=false->m<=j->K ∉ x.ft.ro/\K ∉ x.ft.wo)/\∀ i y oy,i < j->(rs.map Rec.ft)[i]?=some y->l'[i]?=some oy->cfFM (ye ks ag oy && ye ks ag x.o) y x.ft=true->zr6 (rs.map Rec.ft) 3 i j=true:=λj x hx=>by
    obtain ⟨oy,g1,g2,g3,g4,g5⟩:=hj j _ (hft j x hx);rw [hlo j x hx] at g1;injection g1 with g1;subst g1;exact ⟨g2,g3,g4,g5⟩
   have hlt2:∀ (j:Nat) (y:Ft),(rs.map Rec.ft)[j]?=some y->∀ e ∈ y.af,e < j:=λj y hy=>by
    obtain ⟨oy,_,g2,_⟩:=hj j y hy;exact g2
   obtain ⟨xm,hxm,hxo⟩:=c2 (m - 1) om hom;obtain ⟨sm,_,k2,_,_,_⟩:=zyo hch 0 (m - 1) xm hxm;have hwm:=mk_inv (by rw [hxo];exact hmk) k2
   have A1:∀ (i j:Nat) (x y:Rec),i < j->rs[i]?=some x->rs[j]?=some y->cfM ks ag x y=true->dep 0 rs 3 i j=true:=λi j x y hij hx hy hc=>by
    have h5:=(hat j y hy).2.2.2 i _ x.o hij (hft i x hx) (hlo i x hx) hc;have hjl:=(xaa.1 hy).1;exact zkT (b:=0) (fs:=rs.map Rec.ft) hlt2 (λj x hx=>by rw [xbc];exact hft j x hx) 3 i j hjl (by rw [xbc,xbc];exact h5)
   have A2:∀ (j:Nat) (x:Rec),rs[j]?=some x->ye ks ag x.o=true->m<=j/\x.wr.map (·.1)=[K]:=λj x hx hi=>(hat j x hx).2.1 hi
   have A3:ov oW rs 0 (λj=>decide (j < 0+m)) s.look K=some (.mp [] false):=by
    have h5:=znW (W:=oW) (k:=K) (n:=0) (f:=s.look) hxm;rw [show m - 1+1=m by omega] at h5
    rw [h5,oW,hwm];simp [zgp]
   have A4:zg3 (Array.replicate ops.size false) ops.size<=ops.size:=by
    unfold zg3;exact xa8 (List.countP_le_length) (by simp)
   refine yd3 hG.mok hch h1 ks ag K m (λj y hy=>(hat j y hy).1) A1 A2 (λj x hx hmj hi=>(hat j x hx).2.2.1 hi hmj) A3 hE (by rw [hEl,hcnt]) hst hD hk (λC a w hr=>⟨s'.wr K (.mp E true),C,?_,hQ⟩) ops.size _ a _ (by simp) A4 (λj hj=>by omega) (λj _=>repF ops.size j) (λj o hj2 hl=>by rw [repF ops.size j] at hl;cases hl)
    ⟨C,s,[],hr1,rfl,rfl,λk=>(zb1 λj _=>repF ops.size j).symm,λk _=>(zb1 λj _=>repF ops.size j).symm,.nil,λp=>⟨λh=>(by simp at h),λ⟨j,x,_,h5,_⟩=>(by rw [repF ops.size j] at h5;cases h5)⟩,.inr ⟨rfl,(zb1 λj _=>repF ops.size j).symm⟩⟩
   rw [show (s'.wr K (.mp E true)).look=upd s'.look K (some (.mp E true)) from zbl _ _ _]
   exact hr
  .obtain ⟨_,_,_,_,_,_,_,_,_,_,_,post,hts2⟩:=hyo;rw [hts] at hts2;simp at hts2
 all_goals first|(cases hc;done)|(obtain ⟨_,_,hc⟩:=hc;cases hc;done)|(split at hc<;>cases hc;done)
def tN:(((Int.toNat 0=0/\Int.toNat 1=1)/\(Int.toNat 2=2/\Int.toNat 3=3))/\((Int.toNat 4=4/\Int.toNat 5=5)/\(Int.toNat 6=6/\Int.toNat 7=7))):=⟨⟨⟨rfl,rfl⟩,rfl,rfl⟩,⟨rfl,rfl⟩,rfl,rfl⟩
def al_fn (f:Fn) (a b r:List LV):zej (.fn f a b::r)=none:=rfl
def ybF (g:Nat) (bk:PV):Pure prog 162 [.fn (.func g) [bk] []] (.agg [.i .i64 2,.i .i64 1,.fn (.func 163) [] [.ip (.fn (.func g) [bk] []) 0]]):=by
 refine pz func162 f162.eq_1 λhw X hX=>?_
 have qe:=aI qR (aI @tN @al_fn);exact gD0
def ybD (g:Nat) (bk:PV):Pure prog 164 [.fn (.func g) [bk] []] (.agg [.i .i64 3,.i .i64 0,.fn (.func 165) [] [.ip (.fn (.func g) [bk] []) 0]]):=by
 refine pz func164 f164.eq_1 λhw X hX=>?_
 have qe:=aI qR (aI @tN @al_fn);exact gD0
abbrev yi:ByteArray:=bs [104,111,108,100]
abbrev yj:ByteArray:=bs [98,97,99,107]
abbrev ym:ByteArray:=bs [114,101,99,97,108,108]
abbrev yn:ByteArray:=bs [116,114,97,110,115,102,101,114]
abbrev yo:ByteArray:=bs [115,104,97,114,101]
abbrev yp:ByteArray:=bs [115,119,97,112]
abbrev yt:ByteArray:=bs [114,105,110,103]
abbrev yx:ByteArray:=bs [108,101,110,100]
abbrev yB:ByteArray:=bs [114,101,116,105,109,101]
abbrev yE:ByteArray:=bs [119,97,105,116]
abbrev yI:ByteArray:=bs [115,101,114,118,101]
abbrev fnB (g:Nat) (b:PV):PV:=.ip (.fn (.func g) [b] []) 0
abbrev ych (b l:PV):Nat->PV
 | 0=>.fn (.func 166) [] [.ip b 0,.ip l 0]
 | 1=>.fn (.func 163) [] [fnB 77 b]
 | 2=>.fn (.func 163) [] [fnB 86 b]
 | 3=>.fn (.func 165) [] [fnB 168 b]
 | 4=>.fn (.func 165) [] [fnB 169 b]
 | 5=>.fn (.func 170) [] [.ip b 0]
 | 6=>.fn (.func 171) [] [.ip b 0]
 | 7=>.fn (.func 173) [] [.ip b 0]
 | 8=>.fn (.func 174) [] [.ip b 0,.ip l 0]
 | 9=>.fn (.func 176) [] [.ip b 0]
 | _=>.fn (.func 177) [] [.ip b 0,.ip l 0]
abbrev ycZ (b l:PV):List (PV × PV):=
 [(.s yi,.agg [.i .i64 5,.i .i64 7,ych b l 0]),(.s yj,.agg [.i .i64 2,.i .i64 1,ych b l 1]),(.s ym,.agg [.i .i64 2,.i .i64 1,ych b l 2]),(.s yn,.agg [.i .i64 3,.i .i64 0,ych b l 3]),
  (.s yo,.agg [.i .i64 3,.i .i64 0,ych b l 4]),(.s yp,.agg [.i .i64 2,.i .i64 0,ych b l 5]),(.s yt,.agg [.i .i64 (-1),.i .i64 0,ych b l 6]),(.s yx,.agg [.i .i64 3,.i .i64 2,ych b l 7]),
  (.s yB,.agg [.i .i64 2,.i .i64 1,ych b l 8]),(.s yE,.agg [.i .i64 5,.i .i64 8,ych b l 9]),(.s yI,.agg [.i .i64 0,.i .i64 0,ych b l 10])]
def mp1 (v0 v:PV):mput (.s yj) v [(.s yi,v0)]=[(.s yi,v0),(.s yj,v)]:=rfl
def mp2 (v0 v1 v:PV):mput (.s ym) v [(.s yi,v0),(.s yj,v1)]=[(.s yi,v0),(.s yj,v1),(.s ym,v)]:=rfl
def mp3 (v0 v1 v2 v:PV):mput (.s yn) v [(.s yi,v0),(.s yj,v1),(.s ym,v2)]=[(.s yi,v0),(.s yj,v1),(.s ym,v2),(.s yn,v)]:=rfl
def mp4 (v0 v1 v2 v3 v:PV):mput (.s yo) v [(.s yi,v0),(.s yj,v1),(.s ym,v2),(.s yn,v3)]=[(.s yi,v0),(.s yj,v1),(.s ym,v2),(.s yn,v3),(.s yo,v)]:=rfl
def mp5 (v0 v1 v2 v3 v4 v:PV):mput (.s yp) v [(.s yi,v0),(.s yj,v1),(.s ym,v2),(.s yn,v3),(.s yo,v4)]=[(.s yi,v0),(.s yj,v1),(.s ym,v2),(.s yn,v3),(.s yo,v4),(.s yp,v)]:=rfl
def mp6 (v0 v1 v2 v3 v4 v5 v:PV):mput (.s yt) v [(.s yi,v0),(.s yj,v1),(.s ym,v2),(.s yn,v3),(.s yo,v4),(.s yp,v5)]=[(.s yi,v0),(.s yj,v1),(.s ym,v2),(.s yn,v3),(.s yo,v4),(.s yp,v5),(.s yt,v)]:=rfl
def mp7 (v0 v1 v2 v3 v4 v5 v6 v:PV):mput (.s yx) v [(.s yi,v0),(.s yj,v1),(.s ym,v2),(.s yn,v3),(.s yo,v4),(.s yp,v5),(.s yt,v6)]=[(.s yi,v0),(.s yj,v1),(.s ym,v2),(.s yn,v3),(.s yo,v4),(.s yp,v5),(.s yt,v6),(.s yx,v)]:=rfl
def mp8 (v0 v1 v2 v3 v4 v5 v6 v7 v:PV):mput (.s yB) v [(.s yi,v0),(.s yj,v1),(.s ym,v2),(.s yn,v3),(.s yo,v4),(.s yp,v5),(.s yt,v6),(.s yx,v7)]=[(.s yi,v0),(.s yj,v1),(.s ym,v2),(.s yn,v3),(.s yo,v4),(.s yp,v5),(.s yt,v6),(.s yx,v7),(.s yB,v)]:=rfl
def mp9 (v0 v1 v2 v3 v4 v5 v6 v7 v8 v:PV):mput (.s yE) v [(.s yi,v0),(.s yj,v1),(.s ym,v2),(.s yn,v3),(.s yo,v4),(.s yp,v5),(.s yt,v6),(.s yx,v7),(.s yB,v8)]=[(.s yi,v0),(.s yj,v1),(.s ym,v2),(.s yn,v3),(.s yo,v4),(.s yp,v5),(.s yt,v6),(.s yx,v7),(.s yB,v8),(.s yE,v)]:=rfl
def mp10 (v0 v1 v2 v3 v4 v5 v6 v7 v8 v9 v:PV):mput (.s yI) v [(.s yi,v0),(.s yj,v1),(.s ym,v2),(.s yn,v3),(.s yo,v4),(.s yp,v5),(.s yt,v6),(.s yx,v7),(.s yB,v8),(.s yE,v9)]=[(.s yi,v0),(.s yj,v1),(.s ym,v2),(.s yn,v3),(.s yo,v4),(.s yp,v5),(.s yt,v6),(.s yx,v7),(.s yB,v8),(.s yE,v9),(.s yI,v)]:=rfl
def yaU (b l:PV):∀ a ∈ ycZ b l,∃ k,a.1=.s k:=by
 intro a ha;simp only [ycZ,xaA,List.not_mem_nil,or_false] at ha
 rcases ha with rfl|rfl|rfl|rfl|rfl|rfl|rfl|rfl|rfl|rfl|rfl<;>exact ⟨_,rfl⟩
def dd_s {a b:ByteArray} {u v:PV} (h:a≠b):DD (.s a,u) (.s b,v):=by
 constructor<;>simp [PV.cells,eqCells,eqPV,h,Ne.symm h]
def act_dd (b l:PV):(ycZ b l).Pairwise DD:=by
 have key:∀ (K:List ByteArray) (V:List PV),K.Nodup->(List.zipWith (λk v=>((.s k:PV),v)) K V).Pairwise DD:=by
  intro K
  induction K with
  | nil=>intro V _;exact .nil
  | cons k K ih=>
   intro V h;cases V with
   | nil=>exact .nil
   | cons v V=>
    rw [xcl] at h;refine xbg.2 ⟨λp hp=>?_,ih V h.2⟩
    obtain ⟨i,hi⟩:=xaN.1 hp;rw [List.getElem?_zipWith] at hi
    split at hi
    .rename_i k' v' h1 h2;injection hi with hi;subst hi;exact dd_s λe=>h.1 (by rw [e];exact xad h1)
    .cases hi
 exact key [yi,yj,ym,yn,yo,yp,yt,yx,yB,yE,yI] [_,_,_,_,_,_,_,_,_,_,_] (by decide)
def act_ok (b l:PV):∀ p ∈ ycZ b l,∀ q ∈ ycZ b l,keyOk [2] false p.1 q.1:=by
 intro p hp q hq;obtain ⟨x,hx⟩:=yaU b l p hp;obtain ⟨y,hy⟩:=yaU b l q hq;rw [hx,hy];exact ⟨rfl,by simp [PV.cells,eqCellsOk,eqOk]⟩
def yc9 {rs:List RV} {r:PV} {s:St} {p1 p2:Prop} {lvs:List LV} {vs:List PV} {ks:List Nat} (h1:resL s rs=some (p1,lvs)) (h2:toPVs s.look lvs=some (p2,vs,ks)) (h3:p1) (h4:p2) (h5:Weak (tupOf vs) r):retQ rs r .ret s:=by
 show RetOk rs r s;unfold RetOk;rw [h1];simp only;rw [h2];exact ⟨h3,h4,h5⟩
def yeH {look:Nat->Option LObj} {k:Nat} {es:List (PV × PV)} {fz:Bool} (h:look k=some (.mp es fz)):toPVs look [.lm k]=some (True/\True,[.mp es],[k]):=by
 simp only [toPVs,toPV.go,toPV,h,xat]
def ydl (S W L:List PV):Pure prog 94 [.agg [.sl 16 S,.sl 14 W],.sl 11 L] (.mp (ycZ (.agg [.sl 16 S,.sl 14 W]) (.sl 11 L))):=by
 refine pz func94 f94.eq_1 λhw X hX=>?_
 refine zgx (yaK ⟨[(2,.p (.ip (.agg [.sl 16 S,.sl 14 W]) 0)),(3,.p (.ip (.sl 11 L) 0))],[],[],false⟩ ?_ ?_)
 .repeat first|refine gG ?_|show AK _;intro J Z|refine gJ ?_|omega|exact aT
  refine .x 2 (.ip (.agg [.sl 16 S,.sl 14 W]) 0) ?_;refine .x 3 (.ip (.sl 11 L) 0) ?_;exact .cov (sS)
 refine zgx (yaK ⟨[(2,.p (.ip (.agg [.sl 16 S,.sl 14 W]) 0)),(3,.p (.ip (.sl 11 L) 0)),(5,.p (.fn (.func 162) [] []))],[],[],false⟩ ?_ ?_)
 .repeat first|refine gG ?_|show AK _;intro J Z|refine gJ ?_|omega|exact aT
  refine .x 2 (.ip (.agg [.sl 16 S,.sl 14 W]) 0) ?_;refine .x 3 (.ip (.sl 11 L) 0) ?_;exact .cov (sS)
 refine zgx (yaK ⟨[(2,.p (.ip (.agg [.sl 16 S,.sl 14 W]) 0)),(3,.p (.ip (.sl 11 L) 0)),(5,.p (.fn (.func 162) [] [])),(6,.p (.fn (.func 164) [] []))],[],[],false⟩ ?_ ?_)
 .repeat first|refine gG ?_|show AK _;intro J Z|refine gJ ?_|omega|exact aT
  refine .x 2 (.ip (.agg [.sl 16 S,.sl 14 W]) 0) ?_;refine .x 3 (.ip (.sl 11 L) 0) ?_;exact .cov (sS)
 .refine zgx (ycr [2] false 7 1 mixed (by rfl) λKf hK=>?_)
  have qe:=aI qR (aI @tN (aI @mp1 (aI @mp2 (aI @mp3 (aI @mp4 (aI @mp5 (aI @mp6 (aI @mp7 (aI @mp8 (aI @mp9 @mp10))))))))));repeat' first|refine gC ?_ ?_<;>intro hc<;>try contradiction|refine zk (ybF 77 (.agg [.sl 16 S,.sl 14 W])) ?_|refine zk (ybF 86 (.agg [.sl 16 S,.sl 14 W])) ?_|refine zk (ybD 168 (.agg [.sl 16 S,.sl 14 W])) ?_|refine zk (ybD 169 (.agg [.sl 16 S,.sl 14 W])) ?_|refine gG ?_|show AK _;intro J Z|refine gJ ?_|omega|exact aT
  refine hK _ _ (by rfl) ⟨ycZ (.agg [.sl 16 S,.sl 14 W]) (.sl 11 L),by rfl,by rfl,yaU _ _,act_dd _ _,act_ok _ _,?_⟩
  refine ztM ?_;exact yc9 (p1:=True) (lvs:=[.lm 7]) (p2:=True/\True) (vs:=[.mp (ycZ (.agg [.sl 16 S,.sl 14 W]) (.sl 11 L))]) (ks:=[7]) rfl (yeH rfl) trivial ⟨trivial,trivial⟩ (.refl _)
abbrev n5 (a b c d e:ByteArray):PV:=.agg [.s a,.s b,.s c,.s d,.s e]
abbrev yc1 (L:List ByteArray):PV:=.sl 1 (L.map .s)
abbrev slI (L:List Int):PV:=.sl 1 (L.map (.i .i64))
def evQ (a b c d e:ByteArray) (v0 v1 v2 v3 v4 v5 v6:Int):Req:=⟨a,b,c,d,e,s0,⟨v0,v1,v2⟩,v3,v4,v5,v6⟩
def ybB (a b c d e:ByteArray) (v0 v1 v2 v3 v4 v5 v6:Int) (r:List Int):Pure prog 167 [n5 a b c d e,slI (v0::v1::v2::v3::v4::v5::v6::r)] (evQ a b c d e v0 v1 v2 v3 v4 v5 v6).pv:=by
 refine pz func167 f167.eq_1 λhw X hX=>?_
 simp only [wfs,PV.wf,xaf,xaE,maxLen] at hw;have hl:(7:Int)<=((r.length+1+1+1+1+1+1+1:Nat):Int):=by omega
 have qe:=aI qR (aI @tN (@List.map_cons.{0,0}));exact gD0
def ydj (bk:Bk) (l:List Lim) (hb:zfy bk) (a b c d e:ByteArray) (A:List ByteArray) (v0 v1 v2 v3 v4 v5 v6:Int):Pure prog 166 [n5 a b c d e,yc1 A,slI [v0,v1,v2,v3,v4,v5,v6],.ip bk.pv 0,.ip (.sl 11 (l.map Lim.pv)) 0] (.tup [(zjv l bk (evQ a b c d e v0 v1 v2 v3 v4 v5 v6)).pv,.i .i64 (zei l bk (evQ a b c d e v0 v1 v2 v3 v4 v5 v6))]):=by
 refine pz func166 f166.eq_1 λhw X hX=>?_
 have qe:=aI qR @tN;have jA:=ybB a b c d e v0 v1 v2 v3 v4 v5 v6 [];have jB:=zq4 l bk (evQ a b c d e v0 v1 v2 v3 v4 v5 v6) hb;exact gD2
def ybE {g:Nat} {bk y:Bk} {a b c d e:ByteArray} {A:List ByteArray} {v x:Int} (h:Pure prog g [bk.pv,.s a,.s b,.i .i64 v] (.tup [y.pv,.i .i64 x])):Pure prog 163 [n5 a b c d e,yc1 A,slI [v],.ip (.fn (.func g) [bk.pv] []) 0] (.tup [y.pv,.i .i64 x]):=by
 refine pz func163 f163.eq_1 λhw X hX=>?_
 have qe:=aI qR (aI @tN (@List.map_cons.{0,0}));have jA:=h;exact gD2
def ybC {g:Nat} {bk y:Bk} {a b c d e:ByteArray} {A:List ByteArray} {V:PV} {x:Int} (h:Pure prog g [bk.pv,.s a,.s b,.s c] (.tup [y.pv,.i .i64 x])):Pure prog 165 [n5 a b c d e,yc1 A,V,.ip (.fn (.func g) [bk.pv] []) 0] (.tup [y.pv,.i .i64 x]):=by
 refine pz func165 f165.eq_1 λhw X hX=>?_
 have qe:=aI qR @tN;have jA:=h;exact gD2
def ydi (bk:Bk) (hb:zfy bk) (a b c d e:ByteArray) (A:List ByteArray) (V:PV):Pure prog 170 [n5 a b c d e,yc1 A,V,.ip bk.pv 0] (.tup [(zpt bk a b).pv,.i .i64 (zpQ bk a b)]):=by
 refine pz func170 f170.eq_1 λhw X hX=>?_
 have qe:=aI qR @tN;have jA:=zq2 bk a b hb;exact gD2
def ydh (bk:Bk) (hb:zfy bk) (a b c d e:ByteArray) (A:List ByteArray) (V:PV) (hn:A.length<=1000):Pure prog 171 [n5 a b c d e,yc1 A,V,.ip bk.pv 0] (.tup [(yQ bk A).pv,.i .i64 (yah bk A)]):=by
 refine pz func171 f171.eq_1 λhw X hX=>?_
 have qe:=aI qR @tN;have jA:=ydp bk A hb hn;exact gD2
def ydg (bk:Bk) (hb:zfy bk) (a b c d e:ByteArray) (A:List ByteArray) (v0 v1:Int):Pure prog 173 [n5 a b c d e,yc1 A,slI [v0,v1],.ip bk.pv 0] (.tup [(lnB bk a b ⟨c,v0,v1⟩).pv,.i .i64 (lnC bk a b ⟨c,v0,v1⟩)]):=by
 refine pz func173 f173.eq_1 λhw X hX=>?_
 have qe:=aI qR (aI @tN (@List.map_cons.{0,0}));have jA:=zq7 bk a b ⟨c,v0,v1⟩ hb;exact gD2
def ydf (bk:Bk) (l:List Lim) (hb:zfy bk) (a b c d e:ByteArray) (A:List ByteArray) (v0:Int):Pure prog 174 [n5 a b c d e,yc1 A,slI [v0],.ip bk.pv 0,.ip (.sl 11 (l.map Lim.pv)) 0] (.tup [(rtB l bk a b v0).pv,.i .i64 (rtC l bk a b v0)]):=by
 refine pz func174 f174.eq_1 λhw X hX=>?_
 have qe:=aI qR (aI @tN (@List.map_cons.{0,0}));have jA:=ydr l bk a b v0 hb;exact gD2
def yde (bk:Bk) (hb:zfy bk) (hn:bk.wait.length<=11) (a b c d e:ByteArray) (A:List ByteArray) (v0 v1 v2 v3 v4 v5 v6 v7:Int):Pure prog 176 [n5 a b c d e,yc1 A,slI [v0,v1,v2,v3,v4,v5,v6,v7],.ip bk.pv 0] (.tup [(zlg bk ⟨evQ a b c d e v0 v1 v2 v3 v4 v5 v6,v7⟩).pv,.i .i64 (zfC bk ⟨evQ a b c d e v0 v1 v2 v3 v4 v5 v6,v7⟩)]):=by
 refine pz func176 f176.eq_1 λhw X hX=>?_
 have qe:=aI qR (aI @tN (@List.map_cons.{0,0}));have jA:=ybB a b c d e v0 v1 v2 v3 v4 v5 v6 [v7];have jB:=zq9 bk ⟨evQ a b c d e v0 v1 v2 v3 v4 v5 v6,v7⟩ hb hn;exact gD2
def ydd (bk:Bk) (l:List Lim) (hb:zfy bk) (a b c d e:ByteArray) (A V:PV):Pure prog 177 [n5 a b c d e,A,V,.ip bk.pv 0,.ip (.sl 11 (l.map Lim.pv)) 0] (.tup [(srvB l bk).pv,.i .i64 0]):=by
 refine pz func177 f177.eq_1 λhw X hX=>?_
 have qe:=aI qR @tN;have jA:=zq8 l bk hb;exact gD2
def yeM {G:Cfg} {code:Code} {c:AC} {s:St} {Q:zN} (hc:zC G.P G.X.N code=some c) (h:Run G c s Q):RunC G code s Q:=λhG=>h hG code hc
def ya0 {G:Cfg} {y:Code} {s:St} {Q:zN} (s':St) (hc:Cov s s') (h:RunC G y s' Q):RunC G y s Q:=λhG C a w hr=>h hG C a w (zbp hc hr)
section
variable {X:Fx} {C:Ctx} {g:Nat->LV} {look:Nat->Option LObj} {tr:List (List PV)} {stop:Bool} {a:Act} {w:World} {P:Program} {o:Oper}
def yaL (h:RelC X C g look tr stop a w) {d:Nat} (hd:d < X.N) (hg:g d=.any) (v:Value):RelC X C g look tr stop (a.put (some d) v) w:=by
 have h1:=h.put hd (.any v) .any;have e:upd g d .any=g:=by funext t;simp only [upd];split<;>simp_all
 rwa [e] at h1
def yJ {d t:Nat} {v:Value} (h:t≠d):(a.put (some d) v).eval (.tmp t)=a.eval (.tmp t):=by
 simp [Act.put,Act.eval,xan,Array.getElem?_setIfInBounds,Ne.symm h]
def yav (h:RelC X C g look tr stop a w) {d:Nat} {v:Value} (hd:d < X.N):(a.put (some d) v).eval (.tmp d)=v:=by
 have hl:d < a.tmps.size:=by rw [h.tsz];exact hd
 simp [Act.put,Act.eval,xan,hl]
def ev_lp (h:RelC X C g look tr stop a w) {t k off:Nat} (ht:t < GB) (hg:g t=.lp k off):a.eval (.tmp t)=.pointer (some ⟨C.ρ k,off,none⟩):=by
 have h1:=h.env t;rw [zaN ht,hg] at h1;show a.tmps.getD t undef=_;generalize a.tmps.getD t undef=v at h1;cases h1;rfl
def ydZ {tA e:TypeId} {n b:Nat} {x:Operand} (ho:o.op=.slice tA x none none none) (hA:P.underlying tA=some (.array n e)) {sz:Nat} (he:zX P e=some sz) (hx:a.eval x=.pointer (some ⟨b,0,none⟩)) :
  (execOp a.eval o).run P w=.ok (.value (.slice (some ⟨b,0,none⟩) n n)) w:=by
 have hsize:(sizeOf e).run P w=.ok sz w:=zQ he
 by_cases h0:n=0
 .simp [execOp,ho,hx,Instr.sliceAt,run_underlying hA,Instr.sureAddr,Instr.sliceBounds,hsize,h0]
 .simp [execOp,ho,hx,Instr.sliceAt,run_underlying hA,Instr.sureAddr,Instr.sliceBounds,hsize,h0,Addr.add_lit0]
def yd1 {t:TypeId} {x:Operand} {f s off b:Nat} {fs:Array Field} {fl:Field} (ho:o.op=.fieldAddr t x f) (ht:P.underlying t=some (.struct fs)) (hf:fs[f]?=some fl) (hs:zX P fl.type=some s) (h0:s≠0) (hx:a.eval x=.pointer (some ⟨b,off,none⟩)) :
  (execOp a.eval o).run P w=.ok (.value (.pointer (some ⟨b,off+fl.offset,none⟩))) w:=by
 simp [execOp,ho,hx,zc5 ht hf hs h0,Addr.add_lit0]
def yd0 (h:RelC X C g look tr stop a w) {t:TypeId} {x:Operand} {k off:Nat} {fz:Bool} {cs:List LV} {p:PV} (ho:o.op=.load t x) (hs:zX P t=some 1) (hag:zy P t=some false) (hx:a.eval x=.pointer (some ⟨C.ρ k,off,none⟩)) (hk:look k=some (.box cs fz)) (hp:cs[off]?=some (.p p)) :
  ∃ v,(execOp a.eval o).run P w=.ok (.value v) w/\Rep w C.B v p:=by
 have hl:=(xaa.1 hp).1;obtain ⟨v2,e2,e3,_⟩:=zjj h (t:=t) (sz:=1) (off:=off) (ag:=false) hs hag hk (by omega) (λ_=>rfl)
 refine ⟨v2,zdz ho ?_,?_⟩
 .rw [hx];simpa [Instr.loadAt,Instr.sureAddr] using e2
 .simp only [hp,xa4,xaX,if_false] at e3;exact ze e3
def yd2 (h:RelC X C g look tr stop a w) {x y:Operand} {tS e:TypeId} {k n:Nat} {cs:List LV} {L:List PV} (ho:o.op=.call { callee:=.builtin .copy,args:=#[x,y],argTypes:=#[tS,tS] }) (hS:P.underlying tS=some (.slice e)) (he:zX P e=some 1)
  (hx:a.eval x=.slice (some ⟨C.ρ k,0,none⟩) n n) (hk:look k=some (.box cs false)) (hn:cs.length=n) (hy:Rep w C.B (a.eval y) (.sl 1 L)) (hL:∀ p ∈ L,p.cells=[p]/\p.one=true) :
  ∃ v w',(execOp a.eval o).run P w=.ok (.value v) w'/\RelC X C g (upd look k (some (.box (updL cs 0 ((L.take n).map .p)) false))) tr stop a w':=by
 obtain ⟨arr,ty,hg,hr⟩:=zfp h hk;have hlen:=hr.1;simp at hlen;obtain ⟨base,cap,hyv,hne,hm⟩:=zb9 (q:=.p (.sl 1 L)) (pre:=True) (xs:=L) (sz:=1) (rd:=[]) h (.p hy) rfl trivial;have hsize:(sizeOf e).run P w=.ok 1 w:=zQ he;have hop:∀ {v':Value} {w':World},(Builtin.copy_ #[tS,tS] o.type #[.slice (some ⟨C.ρ k,0,none⟩) n n,.slice base L.length cap]).run P w=.ok v' w'->(execOp a.eval o).run P w=.ok (.value v') w':=fun {v' w'} hr=>by
  unfold execOp;simp only [ho,resolve,invoke,builtin,Sem.run_bind,Sem.run_pure,Result.andThen_ok,List.map_toArray,xak,xay,hx,hyv,hr]
 have main:∃ ws:List Value,ws.length=min L.length n/\Reps w C.B ws (L.take n)/\(∀ u ∈ ws,u.oneCell'=true)/\(Builtin.copy_ #[tS,tS] o.type #[.slice (some ⟨C.ρ k,0,none⟩) n n,.slice base L.length cap]).run P w=.ok (goInt (min L.length n:Nat)) (w.setRow (C.ρ k) (ws++arr.toList.drop (min L.length n)).toArray):=by
  by_cases hz:min L.length n=0
  .refine ⟨[],by simp [hz],?_,by simp,?_⟩
   .have:L.take n=[]:=xaq (by rw [xai];omega)
    rw [this];exact .nil
   .have hl:∀ (x:Addr),(loadCells x 0).run P w=.ok #[] w:=λx=>by simpa using run_loadCells_list (P:=P) w x [] (by simp)
    have hz':Nat.min L.length n=0:=hz;have hsr:w.setRow (C.ρ k) (arr.toList.drop 0).toArray=w:=by simpa using setRow_self w (C.ρ k) arr ty (0,0) hg
    rw [hz];cases base<;>simp [Builtin.copy_,run_underlying hS,Builtin.lenOf,Builtin.firstCells,hsize,hz',hl,storeCells,setRow_self w (C.ρ k) arr ty (0,0) hg]
  .have hys:L≠[]:=λe=>by subst e;simp at hz
   obtain ⟨ad,us,rfl,hl,hcell,hus,_⟩:=hne hys;have hfl:L.flatMap PV.cells=L:=by
    have:∀ l:List PV,(∀ p ∈ l,p.cells=[p])->l.flatMap PV.cells=l:=by
     intro l
     induction l with
     | nil=>intro _;rfl
     | cons p l ih=>intro q;rw [xaz,q p (by simp),ih λx hx=>q x (by simp [hx])];rfl
    exact this L λp hp=>(hL p hp).1
   rw [hfl] at hus;rw [xcv] at hl;have hul:us.length=L.length:=hl;have hrep:Reps w C.B (us.take n) (L.take n):=⟨by simp [hul],λj u p hu hp=>by
    rw [xaI] at hu hp
    split at hu
    .rename_i q;rw [if_pos q] at hp;exact hus.2 j u p hu hp
    .cases hu⟩
   have hone:∀ u ∈ us.take n,u.oneCell'=true:=λu hu=>by
    obtain ⟨j,hj⟩:=xaN.1 (xbf hu);have hjl:=(xaa.1 hj).1;have hp:=xab (l:=L) (i:=j) (by omega)
    exact znt (hus.2 j u _ hj hp) (hL _ (xb6 _)).2
   have htl:(us.take n).length=min L.length n:=by rw [xai];omega
   refine ⟨us.take n,htl,hrep,hone,?_⟩;have e1:us.take (min L.length n)=us.take n:=by
    by_cases q:L.length<=n
    .rw [xbw q,xag (by omega),xag (by omega)]
    .rw [xcu (by omega)]
   have hload:(loadCells ad (Nat.min L.length n)).run P w=.ok (us.take n).toArray w:=by
    have:=run_loadCells_list (P:=P) w ad (us.take n) (λj u hu=>by
     rw [xaI] at hu
     split at hu
     .exact hcell j u hu
     .cases hu)
    rw [htl] at this;exact this
   have hst:=run_storeCells_at (P:=P) (C.ρ k) 0 ty (us.take n) 0 arr w hg (by rw [htl];simp;omega) hone
   simp only [xbK,xbc,xbM,xaP,htl] at hst;have hst':(storeCells ⟨C.ρ k,0,none⟩ (us.take n)).run P w=.ok () (w.setRow (C.ρ k) (us.take n++arr.toList.drop (min L.length n)).toArray):=hst;simp [Builtin.copy_,run_underlying hS,Builtin.lenOf,Builtin.firstCells,hsize,hload,hst']
 obtain ⟨ws,hwl,hws,hone,hrun⟩:=main;refine ⟨_,_,hop hrun,?_⟩;have hgr:=zbE w (C.ρ k) (ws++arr.toList.drop (min L.length n)).toArray (blk C k (.box cs false)) rfl;have hq:RepsL w C look ws ((L.take n).map .p):=⟨by rw [hws.1];simp,λj u q hu hq=>by
  rw [xah] at hq;obtain ⟨p,hp,rfl⟩:=xac.1 hq;exact ⟨.p (hws.2 j u p hu hp),.p p⟩⟩
 have hcell:=zlh hr hq (off:=0) (by simp;omega)
 have hf:=zdb (o':=.box (updL cs 0 ((L.take n).map .p)) false) hk trivial;have hrow:∀ k' e sz xs fz,look k'=some (.row e sz xs fz)->∃ xs' fz',upd look k (some (.box (updL cs 0 ((L.take n).map .p)) false)) k'=some (.row e sz xs' fz')/\(xs'.length=xs.length->C.cur k'=C.cur k')/\xs.length<=xs'.length:=λk' e sz xs fz hk'=>
  ⟨xs,fz,by rw [zt _ _ (by rintro rfl;rw [hk] at hk';cases hk')];exact hk',λ_=>rfl,xaj _⟩
 have hrd:∀ b,C.B b->(w.setRow (C.ρ k) (ws++arr.toList.drop (min L.length n)).toArray).heap[b]?=w.heap[b]?:=λb hb=>
  hgr.block b (h.blt b hb) (λe=>(h.sep k _ b hk e.symm).2.2.1 rfl hb)
 have hcell':=ziM (C':=C) (λ_ h=>h) rfl hrd (λ_ _ _=>rfl) hrow hf hcell
 refine h.modify hk trivial rfl rfl rfl rfl rfl rfl rfl rfl (λ_ _=>rfl) (λ_ _ _ _ _ _ e=>by cases e) hgr ?_ ?_ (λb hb=>.inl hb)
 .refine ⟨_,ty,setRow_heap w _ arr _ ty _ hg,?_,λj v q' hv' hq'=>(hcell'.2 j v q' ?_ hq').1⟩
  .have:=hcell'.1;simp [hwl] at this ⊢
   omega
  .simpa [hwl] using hv'
 .intro j q' hq';have:=hcell'.1;have hj:=(xaa.1 hq').1;exact (hcell'.2 j _ q' (xab (by omega)) hq').2
def yeP {B:Nat->Prop} {u v:Value} {p:PV} (e:u=v) (h:Rep w B v p):Rep w B u p:=e ▸ h
def yb6 {G:Cfg} (hm:G.P.follows .mixedOrders=true) {s:St} {Q:zN} {id d0 d1 d2 d3 tb tq k j fi off n sf:Nat} {tA tF tS e ty0 ty1 ty2 ty3:TypeId} {p0 p1 p2 p3:String} {fs:Array Field} {fl:Field} {cs cs5:List LV} {fz:Bool} {L:List PV}
  (hA:G.P.underlying tA=some (.array n e)) (he:zX G.P e=some 1) (hS:G.P.underlying tS=some (.slice e)) (hs1:zX G.P tS=some 1) (hs2:zy G.P tS=some false)
  (ht:G.P.underlying tF=some (.struct fs)) (hf:fs[fi]?=some fl) (hfs:zX G.P fl.type=some sf) (h0:sf≠0)
  (hgb:s.get tb=.lp k 0) (hgq:s.get tq=.lp j off) (hk:s.look k=some (.box cs false)) (hj:s.look j=some (.box cs5 fz)) (hjk:j≠k) (hn:cs.length=n) (hp:cs5[off+fl.offset]?=some (.p (.sl 1 L))) (hL:∀ p ∈ L,p.cells=[p]/\p.one=true)
  (hN:d0 < G.X.N/\d1 < G.X.N/\d2 < G.X.N/\d3 < G.X.N) (htb:tb < GB/\tq < GB) (hd:d0≠d1/\d0≠d2/\d0≠d3/\d1≠d2/\d1≠d3/\d2≠d3/\tb≠d0/\tb≠d1/\tb≠d2/\tb≠d3/\tq≠d0/\tq≠d1/\tq≠d2/\tq≠d3)
  (hany:s.get d0=.any/\s.get d1=.any/\s.get d2=.any/\s.get d3=.any)
  (hQ:Q .normal (s.wr k (.box (updL cs 0 ((L.take n).map .p)) false))) :
  RunC G (.region id #[⟨some d0,.slice tA (.tmp tb) none none none,ty0,p0,#[],none⟩,⟨some d1,.fieldAddr tF (.tmp tq) fi,ty1,p1,#[],none⟩,⟨some d2,.load tS (.tmp d1),ty2,p2,#[⟨1,.data⟩],none⟩,⟨some d3,.call { callee:=.builtin .copy,args:=#[.tmp d0,.tmp d2],argTypes:=#[tS,tS] },ty3,p3,#[⟨0,.data⟩,⟨2,.data⟩],none⟩] true) s Q:=by
 intro hG C a w hr;have hb:Below w.heap.size w { w with drawn:=w.drawn+1 }:=⟨rfl,rfl,rfl,xaj _,λ_ _=>rfl⟩
 have hr1:=hr.grow hb C.B (λ_ h=>h) (λb hb=>.inl hb)
 refine wpIn_region_any hm ?_;generalize hops:(#[⟨some d0,.slice tA (.tmp tb) none none none,ty0,p0,#[],none⟩,⟨some d1,.fieldAddr tF (.tmp tq) fi,ty1,p1,#[],none⟩,⟨some d2,.load tS (.tmp d1),ty2,p2,#[⟨1,.data⟩],none⟩,⟨some d3,.call { callee:=.builtin .copy,args:=#[.tmp d0,.tmp d2],argTypes:=#[tS,tS] },ty3,p3,#[⟨0,.data⟩,⟨2,.data⟩],none⟩]:Array Oper)=ops;have st:∀ (i:Nat) (o:Oper),ops[i]?=some o->o.guard=none->(∀ c,o.op≠.defer c)->∀ (K:Act->World->Prop) (a:Act) (w:World) (v:Value) (w':World),(execOp a.eval o).run G.P w=.ok (.value v) w'->K (a.put o.dst v) w'->wpOpIn (zaa G.ro) 0 G.P ops (QQ G Q) i K a w:=λi o hi hg hnd K a w v w' h1 h2=>by
  unfold wpOpIn;rw [hi];have hw:Region.wanted o (yielded ops a.tmps)=true:=by simp [Region.wanted,hg]
  simp only;rw [if_pos hw];exact zdI hnd (.inl h1) h2
 let Inv (m0 m1 m2:Bool) (a:Act) (w:World):Prop:=RelC G.X C s.get s.look s.tr s.stop a w/\(m0=true->a.eval (.tmp d0)=.slice (some ⟨C.ρ k,0,none⟩) n n)/\(m1=true->a.eval (.tmp d1)=.pointer (some ⟨C.ρ j,off+fl.offset,none⟩))/\(m2=true->Rep w C.B (a.eval (.tmp d2)) (.sl 1 L))
 obtain ⟨n0,n1,n2,n3⟩:=hN;obtain ⟨q1,q2,q3,q4,q5,q6,q7,q8,q9,q10,q11,q12,q13,q14⟩:=hd;obtain ⟨y0,y1,y2,y3⟩:=hany;have s0:∀ (m1 m2:Bool) (a:Act) (w:World) (K:Act->World->Prop),Inv false m1 m2 a w->(∀ a',Inv true m1 m2 a' w->K a' w)->wpOpIn (zaa G.ro) 0 G.P ops (QQ G Q) 0 K a w:=λm1 m2 a w K hI hK=>by
  obtain ⟨i1,i2,i3,i4⟩:=hI;refine st 0 _ (by rw [<-hops];rfl) rfl (by intro c;simp) K a w _ w (ydZ rfl hA he (ev_lp i1 htb.1 hgb)) (hK _ ⟨yaL i1 n0 y0 _,λ_=>yav i1 n0,λq=>?_,λq=>?_⟩)
  .exact (yJ (Ne.symm q1)).trans (i3 q)
  .exact yeP (yJ (Ne.symm q2)) (i4 q)
 have s1:∀ (m0 m2:Bool) (a:Act) (w:World) (K:Act->World->Prop),Inv m0 false m2 a w->(∀ a',Inv m0 true m2 a' w->K a' w)->wpOpIn (zaa G.ro) 0 G.P ops (QQ G Q) 1 K a w:=λm0 m2 a w K hI hK=>by
  obtain ⟨i1,i2,i3,i4⟩:=hI;refine st 1 _ (by rw [<-hops];rfl) rfl (by intro c;simp) K a w _ w (yd1 rfl ht hf hfs h0 (ev_lp i1 htb.2 hgq)) (hK _ ⟨yaL i1 n1 y1 _,λq=>?_,λ_=>yav i1 n1,λq=>?_⟩)
  .exact (yJ q1).trans (i2 q)
  .exact yeP (yJ (Ne.symm q4)) (i4 q)
 have s2:∀ (m0:Bool) (a:Act) (w:World) (K:Act->World->Prop),Inv m0 true false a w->(∀ a',Inv m0 true true a' w->K a' w)->wpOpIn (zaa G.ro) 0 G.P ops (QQ G Q) 2 K a w:=λm0 a w K hI hK=>by
  obtain ⟨i1,i2,i3,i4⟩:=hI;obtain ⟨v,e1,e2⟩:=yd0 (P:=G.P) (o:=⟨some d2,.load tS (.tmp d1),ty2,p2,#[⟨1,.data⟩],none⟩) (x:=.tmp d1) i1 rfl hs1 hs2 (i3 rfl) hj hp;refine st 2 _ (by rw [<-hops];rfl) rfl (by intro c;simp) K a w _ w e1 (hK _ ⟨yaL i1 n2 y2 _,λq=>?_,λq=>?_,λ_=>yeP (yav i1 n2) e2⟩)
  .exact (yJ q2).trans (i2 q)
  .exact (yJ q4).trans (i3 q)
 have s3:∀ (a:Act) (w:World) (K:Act->World->Prop),Inv true true true a w->(∀ a' w',RelC G.X C s.get (upd s.look k (some (.box (updL cs 0 ((L.take n).map .p)) false))) s.tr s.stop a' w'->K a' w')->wpOpIn (zaa G.ro) 0 G.P ops (QQ G Q) 3 K a w:=λa w K hI hK=>by
  obtain ⟨i1,i2,i3,i4⟩:=hI;obtain ⟨v,w',e1,e2⟩:=yd2 (P:=G.P) (o:=⟨some d3,.call { callee:=.builtin .copy,args:=#[.tmp d0,.tmp d2],argTypes:=#[tS,tS] },ty3,p3,#[⟨0,.data⟩,⟨2,.data⟩],none⟩) (x:=.tmp d0) (y:=.tmp d2) i1 rfl hS he (i2 rfl) hk hn (i4 rfl) hL;exact st 3 _ (by rw [<-hops];rfl) rfl (by intro c;simp) K a w _ w' e1 (hK _ _ (yaL e2 n3 y3 _))
 have fin:∀ (listed:Array Bool) (a:Act) (w:World),Region.ready .any ops listed=[3]->Region.ready .any ops (listed.setIfInBounds 3 true)=[]->Inv true true true a w->wpAnyIn (zaa G.ro) 0 G.P .any ops (QQ G Q) 1 listed a w:=λlisted a w r1 r2 hI=>by
  refine ⟨λe=>(by rw [r1] at e;cases e),λi hi=>?_⟩
  rw [r1] at hi;have hi:=xaJ.1 hi;subst hi;refine s3 a w _ hI λa' w' h'=>⟨r2,⟨s.wr k (.box (updL cs 0 ((L.take n).map .p)) false),C,?_,hQ⟩⟩
  rw [show (s.wr k (.box (updL cs 0 ((L.take n).map .p)) false)).look=upd s.look k (some (.box (updL cs 0 ((L.take n).map .p)) false)) from zbl _ _ _]
  exact h'
 have hI0:Inv false false false a { w with drawn:=w.drawn+1 }:=⟨hr1,by simp,by simp,by simp⟩
 have hsz:ops.size=4:=by rw [<-hops];rfl
 rw [hsz];refine ⟨λe=>?_,λi hi=>?_⟩
 .have:Region.ready .any ops (Array.replicate 4 false)=[0,1]:=by rw [<-hops];simp [Region.ready,Region.binds,xa7]
  rw [this] at e;cases e
 .have r0:Region.ready .any ops (Array.replicate 4 false)=[0,1]:=by rw [<-hops];simp [Region.ready,Region.binds,xa7]
  rw [r0] at hi
  rcases xaA.1 hi with rfl|hi
  .refine s0 _ _ _ _ _ hI0 λa1 h1=>?_
   have r1:Region.ready .any ops ((Array.replicate 4 false).setIfInBounds 0 true)=[1]:=by rw [<-hops];simp [Region.ready,Region.binds,xa7]
   refine ⟨λe=>(by rw [r1] at e;cases e),λi hi=>?_⟩
   rw [r1] at hi;have hi:=xaJ.1 hi;subst hi;refine s1 _ _ _ _ _ h1 λa2 h2=>?_
   have r2:Region.ready .any ops (((Array.replicate 4 false).setIfInBounds 0 true).setIfInBounds 1 true)=[2]:=by rw [<-hops];simp [Region.ready,Region.binds,xa7]
   refine ⟨λe=>(by rw [r2] at e;cases e),λi hi=>?_⟩
   rw [r2] at hi;have hi:=xaJ.1 hi;subst hi;exact s2 _ _ _ _ h2 λa3 h3=>fin _ a3 _ (by rw [<-hops];simp [Region.ready,Region.binds,xa7]) (by rw [<-hops];simp [Region.ready,Region.binds,xa7]) h3
  .have hi:=xaJ.1 hi;subst hi;refine s1 _ _ _ _ _ hI0 λa1 h1=>?_
   have r1:Region.ready .any ops ((Array.replicate 4 false).setIfInBounds 1 true)=[0,2]:=by rw [<-hops];simp [Region.ready,Region.binds,xa7]
   refine ⟨λe=>(by rw [r1] at e;cases e),λi hi=>?_⟩
   rw [r1] at hi
   rcases xaA.1 hi with rfl|hi
   .refine s0 _ _ _ _ _ h1 λa2 h2=>?_
    have r2:Region.ready .any ops (((Array.replicate 4 false).setIfInBounds 1 true).setIfInBounds 0 true)=[2]:=by rw [<-hops];simp [Region.ready,Region.binds,xa7]
    refine ⟨λe=>(by rw [r2] at e;cases e),λi hi=>?_⟩
    rw [r2] at hi;have hi:=xaJ.1 hi;subst hi;exact s2 _ _ _ _ h2 λa3 h3=>fin _ a3 _ (by rw [<-hops];simp [Region.ready,Region.binds,xa7]) (by rw [<-hops];simp [Region.ready,Region.binds,xa7]) h3
   .have hi:=xaJ.1 hi;subst hi;refine s2 _ _ _ _ h1 λa2 h2=>?_
    have r2:Region.ready .any ops (((Array.replicate 4 false).setIfInBounds 1 true).setIfInBounds 2 true)=[0]:=by rw [<-hops];simp [Region.ready,Region.binds,xa7]
    refine ⟨λe=>(by rw [r2] at e;cases e),λi hi=>?_⟩
    rw [r2] at hi;have hi:=xaJ.1 hi;subst hi;exact s0 _ _ _ _ _ h2 λa3 h3=>fin _ a3 _ (by rw [<-hops];simp [Region.ready,Region.binds,xa7]) (by rw [<-hops];simp [Region.ready,Region.binds,xa7]) h3
end
def ydc {P : Program} {f : FuncId} {fn : Func} {body : Code} {rs : List RV} {args : List PV} {r : PV} (hf : P.funcs[f]? = some fn) (hname : (fn.name == "runtime.NumGoroutine") = false) (hb : fn.body = some body)
  (hrs:zas P fn.results.toList=some rs) (hn:args.length<=fn.ntmps) (hgb:fn.ntmps<=GB) (hrun:wfs args->∀ X:Fx,X.N=fn.ntmps->RunC ⟨P,X,none,[]⟩ body (argSt args) (retQ rs r)):Pure P f args r:=
 zub ⟨fn,body,hf,hname,hb⟩ λhw=>⟨⟨fn,body,hf,hname,hb⟩,λw B vs hB hvs=>zhQ hf hb hrs hn hgb hB hvs (hrun hw (zdT w B fn.ntmps) rfl)⟩
def seqC (G:Cfg) (y:Code) (Q:zN):zN
 | .normal,s=>RunC G y s Q
 | .ret,s=>Q .ret s
 | .exit i,s=>Q (.exit i) s
def sqR {G:Cfg} {y:Code} {Q:zN} {s:St}:seqC G y Q .ret s=Q .ret s:=rfl
def yC {G:Cfg} {x y:Code} {s:St} {Q:zN} (h:RunC G x s (seqC G y Q)):RunC G (.seq x y) s Q:=by
 intro hG C a w hr;refine wpIn_seq (wpIn_mono (h hG C a w hr) ?_);rintro e a1 w1 ⟨s1,C1,r1,q1⟩;cases e with
 | normal=>exact q1 hG C1 a1 w1 r1
 | exit i=>exact ⟨s1,C1,r1,q1⟩
 | ret=>exact ⟨s1,C1,r1,q1⟩
 | goto l=>exact q1.elim
 | panic c=>exact q1.elim
 | outgrown=>exact q1.elim
def yL {P:Program} {X:Fx} {ro:Option Nat} {ts:List (List PV)} {N:Nat} (hX:X.N=N) {code:Code} {c:AC} {s:St} {Q:zN} (hc:zC P N code=some c) (h:Run ⟨P,X,ro,ts⟩ c s Q):RunC ⟨P,X,ro,ts⟩ code s Q:=
 yeM (by show zC P X.N code=some c;rw [hX];exact hc) h
def cC {N:Nat} {code:Code} {c:AC} (h:zC prog N code=some c:=by
  (conv=>lhs;simp only [qT,qU,cI,cS,cB,cN,cL,cG,cM,zms,zC,zaH,zby,comp,zaf,zbX,zpx,zfK,zas,GB,Region.binds,mG,mT,Int.reduceNeg,Int.reduceLE,Nat.reduceLeDiff,Nat.reduceLT,and_self,reduceIte,xbE,xcC,xby,Option.bind_none,xaE,xbr,xak,xay,xbp,xcy,xaP,xaQ,xcg,xbO,xb9,Option.all_some,Option.all_none,decide_true,decide_eq_true_eq,xcj,xcD,PV.cells,PV.isAgg,Nat.reduceAdd,Nat.reduceMul,Nat.reducePow,reduceCtorEq,xcB,xcc,xaX,xcb,xco,Array.size_empty])
  try exact rfl):zC prog N code=some c:=h
def yd9:zas prog f42.results.toList=some [.cell 6 2 true,.tmp 7]:=by kernel_rfl
abbrev zA3:PV:=.agg [.i .i64 0,.i .i64 0,.nilf]
abbrev evV (num:Int) (kind:ByteArray) (N V:List PV) (text:ByteArray):PV:=.agg [.i .i64 num,.s kind,.sl 1 N,.sl 1 V,.s text]
def ye0 (A:List ByteArray):List ByteArray:=(A++[bs [],bs [],bs [],bs [],bs []]).take 5
def upd5 (A:List ByteArray):updL ([.p (.s (bs [])),.p (.s (bs [])),.p (.s (bs [])),.p (.s (bs [])),.p (.s (bs []))]:List LV) 0 (((A.map .s).take 5).map .p)=(ye0 A).map λx=>LV.p (.s x):=by
 match A with
 | []=>rfl
 | [_]=>rfl
 | [_,_]=>rfl
 | [_,_,_]=>rfl
 | [_,_,_,_]=>rfl
 | a::b::c::d::e::r=>rfl
def yaZ (n v:Nat) (nm vl:Int):Bool:=(decide (0<=nm) && !decide ((n:Int)=nm)) || !decide ((v:Int)=vl)
def evF (num:Int) (kn sh:Bool) (text:ByteArray):Int:=zf [rng num 1 1000,if kn=false then 13 else 0,if sh=true then 2 else 0,if decide (text=bs [])=false then 1 else 0]
def ycA (h1183:∀ n a b,Pure prog 95 [.i .i64 n,.i .i64 a,.i .i64 b] (.i .i64 (rng n a b))) (h1150:∀ (b:Bool) (e:Int),Pure prog 66 [.b b,.i .i64 e] (.i .i64 (if b then e else 0))) (h1086:∀ l:List Int,Pure prog 39 [.sl 1 (l.map (.i .i64))] (.i .i64 (zf l)))
  (S W L:List PV) (num:Int) (kind:ByteArray) (A:List ByteArray) (V:List Int) (text:ByteArray) (nm vl:Int) (fv:PV) (kn:Bool)
  (E:List (PV × PV)) (hA:Pure prog 94 [.agg [.sl 16 S,.sl 14 W],.sl 11 L] (.mp E)) (g1:(mget (.s kind) E).getD zA3=.agg [.i .i64 nm,.i .i64 vl,fv]) (g2:(mget (.s kind) E).isSome=kn) (g3:keysOk [2] false (.s kind) E)
  (hf:fv.one=true) (xs ys:List PV) (c:Int) (hdo:evF num kn (yaZ A.length V.length nm vl) text=0->∃ f caps,fv=.fn (.func f) [] caps/\Pure prog f (.agg ((ye0 A).map .s)::.sl 1 (A.map .s)::.sl 1 (V.map (.i .i64))::caps) (.tup [.agg [.sl 16 xs,.sl 14 ys],.i .i64 c])) :
  Pure prog 42 [.agg [.sl 16 S,.sl 14 W],.sl 11 L,evV num kind (A.map .s) (V.map (.i .i64)) text] (if evF num kn (yaZ A.length V.length nm vl) text=0 then .tup [.agg [.sl 16 xs,.sl 14 ys],.i .i64 c] else .tup [.agg [.nilsl,.nilsl],.i .i64 (evF num kn (yaZ A.length V.length nm vl) text)]):=by
 refine ydc func42 (by kernel_rfl) rfl yd9 (by show 3<=_;decide) (by decide) λhw X hX=>?_
 refine yC (yL hX cC ?_);have qe:=aI qR @tN;repeat' first|refine gC ?_ ?_<;>intro hc<;>try contradiction|refine gG ?_|show AK _;intro J Z|refine gJ ?_|omega|exact aT
 clear qe
 change RunC _ _ _ _
 refine yC (yL hX cC ?_);have qe:=aI qR (aI @tN (aI @g1 (aI @g2 @g3)));repeat' first|refine gC ?_ ?_<;>intro hc<;>try contradiction|refine za hA ?_|refine gG ?_|show AK _;intro J Z|refine gJ ?_|omega|exact aT
 clear qe
 change RunC _ _ _ _
 refine yC (yL hX cC ?_);have qe:=aI qR @tN;repeat' first|refine gC ?_ ?_<;>intro hc<;>try contradiction|refine gG ?_|show AK _;intro J Z|refine gJ ?_|omega|exact aT
 change RunC _ _ _ _
 generalize hsh:(decide (0<=nm) && !decide ((A.length:Int)=nm) || !decide ((V.length:Int)=vl))=sh
 clear qe;refine ya0 ⟨[(10,.p (.b sh)),(9,.p (.b kn)),(8,.lp 8 0),(7,.p (.i .i64 0)),(6,.lp 6 0),(5,.lp 5 0)],
   [(5,.box [.p (.i .i64 num),.p (.s kind),.p (.sl 1 (A.map .s)),.p (.sl 1 (V.map (.i .i64))),.p (.s text)] false),(6,.box [.p .nilsl,.p .nilsl] false),(8,.box [.p (.i .i64 nm),.p (.i .i64 vl),.p fv] false)],[],false⟩ (sS) ?_
 rw [show yaZ A.length V.length nm vl=sh from hsh] at hdo ⊢
 by_cases hE:evF num kn sh text=0
 .rw [if_pos hE];have hEt:(zf [rng num 1 1000,if kn=false then 13 else 0,if sh=true then 2 else 0,if decide (text=bs [])=false then 1 else 0]=0)=True:=eq_true hE
  refine yC (yL hX cC ?_);have qe:=aI qR (aI @tN (aI @hEt (aI @decide_true @xam)));repeat' first|refine gC ?_ ?_<;>intro hc<;>try contradiction|refine za (h1183 _ _ _) ?_|refine za (h1150 _ _) ?_|refine za (h1086 [_,_,_,_]) ?_|refine gG ?_|show AK _;intro J Z|refine gJ ?_|omega|exact aT
  change RunC _ _ _ _
  clear qe;refine ya0 ⟨[(8,.lp 8 0),(7,.p (.i .i64 0)),(6,.lp 6 0),(5,.lp 5 0)],
   [(5,.box [.p (.i .i64 num),.p (.s kind),.p (.sl 1 (A.map .s)),.p (.sl 1 (V.map (.i .i64))),.p (.s text)] false),(6,.box [.p .nilsl,.p .nilsl] false),(8,.box [.p (.i .i64 nm),.p (.i .i64 vl),.p fv] false)],[],false⟩ (sS) ?_
  refine yC (yL hX cC ?_);have qe:=aI qR @tN;repeat' first|refine gC ?_ ?_<;>intro hc<;>try contradiction|refine gG ?_|show AK _;intro J Z|refine gJ ?_|omega|exact aT
  change RunC _ _ _ _
  clear qe;refine yC (yb6 mixed underlying169 (by kernel_rfl) underlying27 (by kernel_rfl) (by kernel_rfl) underlying30 rfl (sf:=1) (by kernel_rfl) (by decide) rfl rfl rfl rfl (by decide) rfl (L:=A.map .s) rfl ?_ ?_ (by decide) (by decide) ⟨rfl,rfl,rfl,rfl⟩ ?_)
  .intro p hp;obtain ⟨z,_,rfl⟩:=xaT.1 hp;exact ⟨rfl,rfl⟩
  .show 59 < X.N/\60 < X.N/\61 < X.N/\62 < X.N;rw [hX];decide
  obtain ⟨f,caps,rfl,hPf⟩:=hdo hE;rw [upd5];obtain ⟨a1,a2,a3,a4,a5,h5⟩:∃ a1 a2 a3 a4 a5,ye0 A=[a1,a2,a3,a4,a5]:=by
   match A with
   | []=>exact ⟨_,_,_,_,_,rfl⟩
   | [_]=>exact ⟨_,_,_,_,_,rfl⟩
   | [_,_]=>exact ⟨_,_,_,_,_,rfl⟩
   | [_,_,_]=>exact ⟨_,_,_,_,_,rfl⟩
   | [_,_,_,_]=>exact ⟨_,_,_,_,_,rfl⟩
   | a::b::c::d::e::r=>exact ⟨_,_,_,_,_,rfl⟩
  rw [h5] at hPf ⊢
  change RunC _ _ ⟨[(12,.lp 12 0),(8,.lp 8 0),(7,.p (.i .i64 0)),(6,.lp 6 0),(5,.lp 5 0)],
   [(5,.box [.p (.i .i64 num),.p (.s kind),.p (.sl 1 (A.map .s)),.p (.sl 1 (V.map (.i .i64))),.p (.s text)] false),(6,.box [.p .nilsl,.p .nilsl] false),(8,.box [.p (.i .i64 nm),.p (.i .i64 vl),.p (.fn (.func f) [] caps)] false),(12,.box [.p (.s a1),.p (.s a2),.p (.s a3),.p (.s a4),.p (.s a5)] false)],[],false⟩ _
  refine yL hX cC ?_;have qe:=aI qR @tN;have jA:=hPf;exact gD2
 .rw [if_neg hE];have hEt:(zf [rng num 1 1000,if kn=false then 13 else 0,if sh=true then 2 else 0,if decide (text=bs [])=false then 1 else 0]=0)=False:=eq_false hE
  refine yC (yL hX cC ?_);have qe:=aI qR (aI @tN (aI @hEt (aI @decide_false @xal)));repeat' first|refine gC ?_ ?_<;>intro hc<;>try contradiction|refine za (h1183 _ _ _) ?_|refine za (h1150 _ _) ?_|refine za (h1086 [_,_,_,_]) ?_|refine gG ?_|show AK _;intro J Z|refine gJ ?_|omega|exact aT
  clear qe;rw [sqR];refine gJ ?_;exact .refl _
structure Evt where
 num:Int
 kind:ByteArray
 names:List ByteArray
 vals:List Int
 text:ByteArray
abbrev Evt.pv (e:Evt):PV:=.agg [.i .i64 e.num,.s e.kind,.sl 1 (e.names.map .s),.sl 1 (e.vals.map (.i .i64)),.s e.text]
def nA (l:List ByteArray) (i:Nat):ByteArray:=(l[i]?).getD s0
def vA (l:List Int) (i:Nat):Int:=(l[i]?).getD 0
def evR (e:Evt):Req:=evQ (nA e.names 0) (nA e.names 1) (nA e.names 2) (nA e.names 3) (nA e.names 4) (vA e.vals 0) (vA e.vals 1) (vA e.vals 2) (vA e.vals 3) (vA e.vals 4) (vA e.vals 5) (vA e.vals 6)
def doB (bk:Bk) (l:List Lim) (e:Evt):Nat->Bk × Int
 | 0=>(zjv l bk (evR e),zei l bk (evR e))
 | 1=>(zvV bk (nA e.names 0) (nA e.names 1) (vA e.vals 0),zpf bk (nA e.names 0) (nA e.names 1) (vA e.vals 0))
 | 2=>(reB bk (nA e.names 0) (nA e.names 1) (vA e.vals 0),reC bk (nA e.names 0) (nA e.names 1) (vA e.vals 0))
 | 3=>(trB bk (nA e.names 0) (nA e.names 1) (nA e.names 2),trC bk (nA e.names 0) (nA e.names 1) (nA e.names 2))
 | 4=>(shB bk (nA e.names 0) (nA e.names 1) (nA e.names 2),shC bk (nA e.names 0) (nA e.names 1) (nA e.names 2))
 | 5=>(zpt bk (nA e.names 0) (nA e.names 1),zpQ bk (nA e.names 0) (nA e.names 1))
 | 6=>(yQ bk e.names,yah bk e.names)
 | 7=>(lnB bk (nA e.names 0) (nA e.names 1) ⟨nA e.names 2,vA e.vals 0,vA e.vals 1⟩,lnC bk (nA e.names 0) (nA e.names 1) ⟨nA e.names 2,vA e.vals 0,vA e.vals 1⟩)
 | 8=>(rtB l bk (nA e.names 0) (nA e.names 1) (vA e.vals 0),rtC l bk (nA e.names 0) (nA e.names 1) (vA e.vals 0))
 | 9=>(zlg bk ⟨evR e,vA e.vals 7⟩,zfC bk ⟨evR e,vA e.vals 7⟩)
 | _=>(srvB l bk,0)
def yR (k:ByteArray):Option (Int × Int × Nat):=
 if k=yi then some (5,7,0) else if k=yj then some (2,1,1) else if k=ym then some (2,1,2) else if k=yn then some (3,0,3) else if k=yo then some (3,0,4) else if k=yp then some (2,0,5)
 else if k=yt then some (-1,0,6) else if k=yx then some (3,2,7) else if k=yB then some (2,1,8) else if k=yE then some (5,8,9) else if k=yI then some (0,0,10) else none
def nmO (k:ByteArray):Int:=match yR k with|some (n,_,_)=>n|none=>0
def vlO (k:ByteArray):Int:=match yR k with|some (_,v,_)=>v|none=>0
def evE (e:Evt):Int:=evF e.num (yR e.kind).isSome (yaZ e.names.length e.vals.length (nmO e.kind) (vlO e.kind)) e.text
def apP (bk:Bk) (l:List Lim) (e:Evt):Bk × Int:=if evE e=0 then (match yR e.kind with
 | some (_,_,j)=>doB bk l e j
 | none=>(bk0,13)) else (bk0,evE e)
abbrev fnOf (bk:Bk) (l:List Lim) (j:Nat):PV:=ych bk.pv (.sl 11 (l.map Lim.pv)) j
abbrev mpOf (bk:Bk) (l:List Lim) (k:ByteArray):Option PV:=(yR k).map λx=>.agg [.i .i64 x.1,.i .i64 x.2.1,fnOf bk l x.2.2]
def eqS (a b:ByteArray):eqCells (PV.cells (.s a)) (PV.cells (.s b))=decide (a=b):=by
 simp [PV.cells,eqCells,eqPV]
def ybU (bk:Bk) (l:List Lim) (k:ByteArray):mget (.s k) (ycZ bk.pv (.sl 11 (l.map Lim.pv)))=mpOf bk l k:=by
 unfold mpOf yR;simp only [mget,ycZ,eqS,decide_eq_true_eq]
 by_cases h0:k=yi
 .rw [if_pos h0,if_pos h0];rfl
 rw [if_neg h0,if_neg h0]
 by_cases h1:k=yj
 .rw [if_pos h1,if_pos h1];rfl
 rw [if_neg h1,if_neg h1]
 by_cases h2:k=ym
 .rw [if_pos h2,if_pos h2];rfl
 rw [if_neg h2,if_neg h2]
 by_cases h3:k=yn
 .rw [if_pos h3,if_pos h3];rfl
 rw [if_neg h3,if_neg h3]
 by_cases h4:k=yo
 .rw [if_pos h4,if_pos h4];rfl
 rw [if_neg h4,if_neg h4]
 by_cases h5:k=yp
 .rw [if_pos h5,if_pos h5];rfl
 rw [if_neg h5,if_neg h5]
 by_cases h6:k=yt
 .rw [if_pos h6,if_pos h6];rfl
 rw [if_neg h6,if_neg h6]
 by_cases h7:k=yx
 .rw [if_pos h7,if_pos h7];rfl
 rw [if_neg h7,if_neg h7]
 by_cases h8:k=yB
 .rw [if_pos h8,if_pos h8];rfl
 rw [if_neg h8,if_neg h8]
 by_cases h9:k=yE
 .rw [if_pos h9,if_pos h9];rfl
 rw [if_neg h9,if_neg h9]
 by_cases h10:k=yI
 .rw [if_pos h10,if_pos h10];rfl
 rw [if_neg h10,if_neg h10];rfl
def yfw (bk:Bk) (l:List Lim) (k:ByteArray):keysOk [2] false (.s k) (ycZ bk.pv (.sl 11 (l.map Lim.pv))):=yaq λa ha=>by
 obtain ⟨x,hx⟩:=yaU _ _ a ha;rw [hx];exact ⟨rfl,by simp [PV.cells,eqCellsOk,eqOk]⟩
def yeq (A:List ByteArray):∃ a b c d e,(ye0 A).map PV.s=[.s a,.s b,.s c,.s d,.s e]:=by
 match A with
 | []=>exact ⟨_,_,_,_,_,rfl⟩
 | [_]=>exact ⟨_,_,_,_,_,rfl⟩
 | [_,_]=>exact ⟨_,_,_,_,_,rfl⟩
 | [_,_,_]=>exact ⟨_,_,_,_,_,rfl⟩
 | [_,_,_,_]=>exact ⟨_,_,_,_,_,rfl⟩
 | a::b::c::d::e::r=>exact ⟨_,_,_,_,_,rfl⟩
def do_ok (bk:Bk) (l:List Lim) (e:Evt) (hb:zfy bk) (hw:bk.wait.length<=11) (hN:e.names.length<=1000) {nm vl:Int} {j:Nat} (hk:yR e.kind=some (nm,vl,j)) (hs:yaZ e.names.length e.vals.length nm vl=false) :
  ∃ f caps,fnOf bk l j=.fn (.func f) [] caps/\Pure prog f (.agg ((ye0 e.names).map .s)::yc1 e.names::slI e.vals::caps) (.tup [(doB bk l e j).1.pv,.i .i64 (doB bk l e j).2]):=by
 obtain ⟨num,kind,names,vals,text⟩:=e;simp only at hN hk;simp only [yaZ,xbd,xbY,decide_eq_false_iff_not,xb7,decide_eq_true_eq] at hs;obtain ⟨h1,h2⟩:=hs;rw [yR] at hk
 repeat' split at hk
 all_goals simp only [xaR,xcq,reduceCtorEq] at hk
 all_goals obtain ⟨rfl,rfl,rfl⟩:=hk
 .have h1:=h1.resolve_left (by omega)
  match names,vals,h1,h2 with
  | [a,b,c,d,e],[v0,v1,v2,v3,v4,v5,v6],_,_=>exact ⟨_,_,rfl,ydj bk l hb a b c d e _ v0 v1 v2 v3 v4 v5 v6⟩
 .have h1:=h1.resolve_left (by omega)
  match names,vals,h1,h2 with
  | [a,b],[v0],_,_=>exact ⟨_,_,rfl,ybE (zq3 bk a b v0 hb)⟩
 .have h1:=h1.resolve_left (by omega)
  match names,vals,h1,h2 with
  | [a,b],[v0],_,_=>exact ⟨_,_,rfl,ybE (zq5 bk a b v0 hb)⟩
 .have h1:=h1.resolve_left (by omega)
  match names,vals,h1,h2 with
  | [a,b,c],[],_,_=>exact ⟨_,_,rfl,ybC (ydo bk a b c hb)⟩
 .have h1:=h1.resolve_left (by omega)
  match names,vals,h1,h2 with
  | [a,b,c],[],_,_=>exact ⟨_,_,rfl,ybC (ydq bk a b c hb)⟩
 .have h1:=h1.resolve_left (by omega)
  match names,vals,h1,h2 with
  | [a,b],[],_,_=>exact ⟨_,_,rfl,ydi bk hb a b _ _ _ _ _⟩
 .obtain ⟨a,b,c,d,e,h5⟩:=yeq names;refine ⟨_,_,rfl,?_⟩;show Pure prog 171 (.agg ((ye0 names).map .s)::_) _;rw [h5];exact ydh bk hb a b c d e names _ hN
 .have h1:=h1.resolve_left (by omega)
  match names,vals,h1,h2 with
  | [a,b,c],[v0,v1],_,_=>exact ⟨_,_,rfl,ydg bk hb a b c _ _ _ v0 v1⟩
 .have h1:=h1.resolve_left (by omega)
  match names,vals,h1,h2 with
  | [a,b],[v0],_,_=>exact ⟨_,_,rfl,ydf bk l hb a b _ _ _ _ v0⟩
 .have h1:=h1.resolve_left (by omega)
  match names,vals,h1,h2 with
  | [a,b,c,d,e],[v0,v1,v2,v3,v4,v5,v6,v7],_,_=>exact ⟨_,_,rfl,yde bk hb hw a b c d e _ v0 v1 v2 v3 v4 v5 v6 v7⟩
 .obtain ⟨a,b,c,d,e,h5⟩:=yeq names;refine ⟨_,_,rfl,?_⟩;show Pure prog 177 (.agg ((ye0 names).map .s)::_) _;rw [h5];exact ydd bk l hb a b c d e _ _
def fvO (bk:Bk) (l:List Lim) (k:ByteArray):PV:=match yR k with|some (_,_,j)=>fnOf bk l j|none=>.nilf
def yer (bk:Bk) (l:List Lim) (k:ByteArray):(mpOf bk l k).getD zA3=.agg [.i .i64 (nmO k),.i .i64 (vlO k),fvO bk l k]/\(mpOf bk l k).isSome=(yR k).isSome:=by
 unfold mpOf nmO vlO fvO;cases yR k with
 | none=>exact ⟨rfl,rfl⟩
 | some x=>exact ⟨rfl,rfl⟩
def fv_one (bk:Bk) (l:List Lim) (k:ByteArray):(fvO bk l k).one=true:=by
 unfold fvO
 split
 .rename_i j _;unfold fnOf ych
  split<;>rfl
 .rfl
def yam {e:Evt} (h:evE e=0):∃ nm vl j,yR e.kind=some (nm,vl,j)/\yaZ e.names.length e.vals.length nm vl=false:=by
 unfold evE evF at h;have h1:=fE0 h (if (yR e.kind).isSome=false then 13 else 0) (by simp)
 have h2:=fE0 h (if yaZ e.names.length e.vals.length (nmO e.kind) (vlO e.kind)=true then 2 else 0) (by simp)
 cases hk:yR e.kind with
 | none=>rw [hk] at h1;simp at h1
 | some x=>
  obtain ⟨nm,vl,j⟩:=x;refine ⟨nm,vl,j,rfl,?_⟩;simp only [nmO,vlO,hk] at h2;cases hs:yaZ e.names.length e.vals.length nm vl with
  | false=>rfl
  | true=>rw [hs] at h2;simp at h2
def ydn (bk:Bk) (l:List Lim) (e:Evt) (hb:zfy bk) (hw10:bk.wait.length<=11) (hN:e.names.length<=1000):Pure prog 42 [bk.pv,.sl 11 (l.map Lim.pv),e.pv] (.tup [(apP bk l e).1.pv,.i .i64 (apP bk l e).2]):=by
 have:=ycA zki zU zw (bk.slots.map Slt.pv) (bk.wait.map Wsh.pv) (l.map Lim.pv) e.num e.kind e.names e.vals e.text (nmO e.kind) (vlO e.kind) (fvO bk l e.kind) (yR e.kind).isSome
  _ (ydl _ _ _) (by rw [ybU];exact (yer bk l e.kind).1) (by rw [ybU];exact (yer bk l e.kind).2) (yfw bk l e.kind) (fv_one bk l e.kind)
  ((apP bk l e).1.slots.map Slt.pv) ((apP bk l e).1.wait.map Wsh.pv) (apP bk l e).2 (λh=>by
   obtain ⟨nm,vl,j,hk,hs⟩:=yam (e:=e) h;obtain ⟨f,caps,h1,h2⟩:=do_ok bk l e hb hw10 hN hk hs;refine ⟨f,caps,by rw [fvO,hk];exact h1,?_⟩
   have ea:apP bk l e=doB bk l e j:=by rw [apP,if_pos (show evE e=0 from h),hk]
   rw [ea];exact h2)
 have er:(if evF e.num (yR e.kind).isSome (yaZ e.names.length e.vals.length (nmO e.kind) (vlO e.kind)) e.text=0 then PV.tup [.agg [.sl 16 ((apP bk l e).1.slots.map Slt.pv),.sl 14 ((apP bk l e).1.wait.map Wsh.pv)],.i .i64 (apP bk l e).2] else .tup [.agg [.nilsl,.nilsl],.i .i64 (evF e.num (yR e.kind).isSome (yaZ e.names.length e.vals.length (nmO e.kind) (vlO e.kind)) e.text)])=(if evE e=0 then PV.tup [(apP bk l e).1.pv,.i .i64 (apP bk l e).2] else .tup [.agg [.nilsl,.nilsl],.i .i64 (evE e)]):=rfl
 rw [er] at this
 by_cases h:evE e=0
 .rw [if_pos h] at this;exact this
 .rw [if_neg h] at this;have ea:apP bk l e=(bk0,evE e):=by rw [apP,if_neg h]
  rw [ea];exact zar this (zbt _)
open Go.RowKit Go.Proofs.Tryz Go.ChangeShapes Go.WideShapes Go.ChangeAt
def evtT:List CP:=[jT,.s,.sl false [.s],.sl false [jT],.s]
def yfa {n:Nat} {p:PV} (h:Fit (n+1) (.sl false [jT]) p):∃ L:List Int,p=.sl 1 (L.map (.i .i64)):=by
 obtain ⟨xs,rfl,hx⟩:=h;obtain ⟨L,rfl⟩:=y4 (f:=PV.i .i64) (xs:=xs) λx h=>by
  obtain ⟨l,rfl,hf⟩:=hx x h
  match l,hf with
  | [_],⟨h1,_⟩=>
   cases n<;>(obtain ⟨a,rfl⟩:=h1;exact ⟨a,rfl⟩)
 exact ⟨L,rfl⟩
def evt_of {n:Nat} {l:List PV} (h:FitAll (Fit (n+1)) evtT l):∃ e:Evt,.agg l=e.pv:=by
 match l,h with
 | [_,_,_,_,_],⟨⟨a,ha⟩,⟨b,hb⟩,h1,h2,⟨c,hc⟩,_⟩=>
  subst ha hb hc;obtain ⟨N,rfl⟩:=ycn h1;obtain ⟨V,rfl⟩:=yfa h2;exact ⟨⟨a,b,N,V,c⟩,rfl⟩
def parV1:yep prog 6 30=some (true,evtT):=by kernel_rfl
def yfd {p:PV} (h:yax prog 6 30 p):∃ e:Evt,p=e.pv:=by
 obtain ⟨⟨ag,c,l,hp,rfl,hl⟩,hb⟩:=h;rw [parV1] at hp;simp only [xaR,xcq] at hp;obtain ⟨rfl,rfl⟩:=hp;exact evt_of hl
open Go.RowKit Go.Proofs.Tryz
def ApB (l:List Lim) (b:Bk) (e:Evt):Bk × Int:=if lbE l b=0 then apP b l e else (bk0,lbE l b)
def ydw (l:List Lim) (b:Bk) (e:Evt) (hb:zG b=0->zfy b/\b.wait.length<=11) (hN:e.names.length<=1000):Pure prog 9 [.sl 11 (l.map Lim.pv),b.pv,e.pv] (.tup [(ApB l b e).1.pv,.i .i64 (ApB l b e).2]):=by
 by_cases h:lbE l b=0
 .have e1:(zf [zZ l,zG b]=0)=True:=eq_true h;have hbk:=hb (fE0 h _ (by simp))
  rw [ApB,if_pos h];refine pz func9 f9.eq_1 λhw X hX=>?_
  have qe:=aI qR (aI @qN @e1);have jA:=zeR l;have jB:=zV b;have jC:=λu1 u2=>zw [u1,u2];have jD:=ydn b l e hbk.1 hbk.2 hN;exact gD4
 .have e1:(zf [zZ l,zG b]=0)=False:=eq_false h;rw [ApB,if_neg h];refine zar (r:=.tup [.agg [.nilsl,.nilsl],.i .i64 (lbE l b)]) ?_ (zbt _);refine pz func9 f9.eq_1 λhw X hX=>?_
  have qe:=aI qR (aI @qN @e1);have jA:=zeR l;have jB:=zV b;have jC:=λu1 u2=>zw [u1,u2];exact gD4
def ycm (b:Bk) (w:Wsh):Bk:=if zfC b w=0 then ⟨b.slots,inR yg w b.wait⟩ else bk0
def ydI (b:Bk) (w:Wsh) (hb:zfy b) (hn64:b.wait.length<=64):Pure prog 53 [b.pv,w.pv] (.tup [(ycm b w).pv,.i .i64 (zfC b w)]):=by
 refine zar (r:=if zfC b w=0 then .tup [.agg [.sl 16 (b.slots.map Slt.pv),.sl 14 ((inR yg w b.wait).map Wsh.pv)],.i .i64 0] else .tup [.agg [.nilsl,.nilsl],.i .i64 (zfC b w)]) ?_ ?_
 .refine pz func53 f53.eq_1 λhw X hX=>?_
  have ht:tkE b w.req.name=if zhw (b.slots.map (·.req.name)) (b.wait.map (·.req.name)) w.req.name=true then 9 else 0:=rfl
  have e9:((9:Int)=0)=False:=eq_false (by omega)
  have e5:((5:Int)=0)=False:=eq_false (by omega)
  by_cases hq:zkY w=0
  .have hq':=eq_true hq;have hE:zfC b w=zf [tkE b w.req.name,if 64<=(b.wait.length:Int) then 5 else 0]:=za2 hq
   by_cases h1:0<=atL w.req.name (b.slots.map (·.req.name))
   .have h1':=eq_true h1;have hT:tkE b w.req.name=9:=by rw [ht,zhw,decide_eq_true h1,xcE,if_pos rfl]
    have hC:zfC b w=9:=by rw [hE,hT,za1 (by omega)]
    rw [hC,if_neg (by omega)]
    have qe:=aI qR (aI @hq (aI @hq' (aI @h1' (aI @e9 (aI @za9 (aI @decide_true (aI @decide_false @xal)))))));have jA:=yq w;have jB:=yf b.slots w.req.name;have jC:=yh b.wait w.req.name;exact gD4
   have h1':=eq_false h1
   by_cases h2:0<=atL w.req.name (b.wait.map (·.req.name))
   .have h2':=eq_true h2;have hT:tkE b w.req.name=9:=by rw [ht,zhw,decide_eq_true h2,Bool.or_true,if_pos rfl]
    have hC:zfC b w=9:=by rw [hE,hT,za1 (by omega)]
    rw [hC,if_neg (by omega)]
    have qe:=aI qR (aI @hq (aI @hq' (aI @h1' (aI @h2' (aI @e9 (aI @za9 (aI @decide_true (aI @decide_false @xal))))))));have jA:=yq w;have jB:=yf b.slots w.req.name;have jC:=yh b.wait w.req.name;exact gD4
   have h2':=eq_false h2;have hT:tkE b w.req.name=0:=by rw [ht,zhw,decide_eq_false h1,decide_eq_false h2];rfl
   by_cases h64:b.wait.length=64
   .have hC:zfC b w=5:=by rw [hE,hT,za2 rfl,zfj,if_pos (by omega)]
    have h64':((b.wait.length:Int)=64)=True:=eq_true (by omega)
    rw [hC,if_neg (by omega)]
    have qe:=aI qR (aI @hq (aI @hq' (aI @h1' (aI @h2' (aI @h64' (aI @e5 (aI @za9 (aI @decide_true (aI @decide_false @xal)))))))));have jA:=yq w;have jB:=yf b.slots w.req.name;have jC:=yh b.wait w.req.name;exact gD4
   have h64':((b.wait.length:Int)=64)=False:=eq_false (by omega)
   have hC:zfC b w=0:=by rw [hE,hT,za2 rfl,zfj,if_neg (by omega)]
   rw [hC,if_pos rfl];have qe:=aI qR (aI @hq (aI @hq' (aI @h1' (aI @h2' (aI @h64' (aI @za9 (aI @decide_true (aI @decide_false @xam))))))));repeat' first|refine gC ?_ ?_<;>intro hc<;>try contradiction|refine za (yq w) ?_|refine zp (λ_=>yf b.slots w.req.name) ?_|refine zp (λ_=>yh b.wait w.req.name) ?_|refine gG ?_|show AK _;intro J Z|refine gJ ?_|omega|exact aT
   refine zaO 100 104 14 [(2,.lp 2 0),(3,.lp 3 0),(4,.lp 4 0),(7,.row 100 0),(8,.p (.b false)),(9,.p (.i .i64 0))] [(2,.box [.p (.sl 16 (b.slots.map Slt.pv)),.p (.sl 14 (b.wait.map Wsh.pv))] false),(3,.box [.p (.s w.req.name),.p (.s w.req.carrier),.p (.s w.req.kind),.p (.s w.req.term),.p (.s w.req.partner),.p (.s w.req.link),.p (.i .i64 w.req.per.fro),.p (.i .i64 w.req.per.to),.p (.i .i64 w.req.per.days),.p (.i .i64 w.req.minute),.p (.i .i64 w.req.seats),.p (.i .i64 w.req.size),.p (.i .i64 w.req.noise),.p (.i .i64 w.rank)] false),(4,.box [.p .nilsl,.p .nilsl] false)] ?_ ?_
   .simp only [Own,zaL,zaA,zbr,zax,qS,seval]
   refine zi (κ:=Nat) (λk=>⟨[(2,.lp 2 0),(3,.lp 3 0),(4,.lp 4 0),(7,.row 100 (inK yg w (b.wait.take k)).2.length),(8,.p (.b (inK yg w (b.wait.take k)).1)),(9,.p (.i .i64 k))],[(2,.box [.p (.sl 16 (b.slots.map Slt.pv)),.p (.sl 14 (b.wait.map Wsh.pv))] false),(3,.box [.p (.s w.req.name),.p (.s w.req.carrier),.p (.s w.req.kind),.p (.s w.req.term),.p (.s w.req.partner),.p (.s w.req.link),.p (.i .i64 w.req.per.fro),.p (.i .i64 w.req.per.to),.p (.i .i64 w.req.per.days),.p (.i .i64 w.req.minute),.p (.i .i64 w.req.seats),.p (.i .i64 w.req.size),.p (.i .i64 w.req.noise),.p (.i .i64 w.rank)] false),(4,.box [.p .nilsl,.p .nilsl] false),(100,.row 104 14 ((inK yg w (b.wait.take k)).2.map Wsh.pv) false)],[],false⟩) (λk=>k<=b.wait.length) (λk=>b.wait.length - k) 0 ?_ ?_ ?_
   .refine gJ ?_;simp [inK]
   .simp
   .intro k hk;have hl:(inK yg w (b.wait.take k)).2.length<=k+1:=by have:=ycI yg w (b.wait.take k);rw [xai] at this;omega
    repeat first|refine gG ?_|show AK _;intro J Z|refine gJ ?_|omega|exact aT
    (refine gC ?_ ?_<;>intro hc<;>try contradiction)
    .obtain ⟨x,hx⟩:=zm (i:=k) (l:=b.wait) (by omega)
     have hnx:=ybX (bf:=yg) (l:=w) hx;generalize hqq:inK yg w (b.wait.take k)=q at hnx hl;obtain ⟨q1,q2⟩:=q;simp only at hl hnx;cases q1 with
     | true=>
      rw [inF,if_neg (by simp)] at hnx
      have qe:=aI qR (aI @hx (aI @decide_false @xam));repeat' first|refine gC ?_ ?_<;>intro hc<;>try contradiction|(show zh _ _ _ _ (⟨_,.call 49,_,_,_⟩::_) _ _;refine ya (q:=.b false) (by first|rfl|(simp (disch:=omega) only [qG,qe,seval]<;>rfl)) ?_;(try (refine zF ?_)))|refine gG ?_|show AK _;intro J Z|refine gJ ?_|omega|exact aT
      all_goals exact ⟨k+1,by omega,by omega,⟨by rw [hnx];simp,by rw [hnx],by simp⟩,by rw [hnx];simp⟩
     | false=>
      by_cases h7:yg w x=true
      .rw [inF,if_pos ⟨rfl,h7⟩] at hnx;have qe:=aI qR (aI @hx (aI @h7 (aI @decide_true @xal)));repeat' first|refine gC ?_ ?_<;>intro hc<;>try contradiction|refine zp (λ_=>yak w x) ?_|refine gG ?_|show AK _;intro J Z|refine gJ ?_|omega|exact aT
       all_goals exact ⟨k+1,by omega,by omega,⟨by rw [hnx];simp,by rw [hnx],by simp⟩,by rw [hnx];simp⟩
      .have h7':yg w x=false:=by simpa using h7
       rw [inF,if_neg (λk=>h7 k.2)] at hnx
       have qe:=aI qR (aI @hx (aI @h7' (aI @decide_false @xal)));repeat' first|refine gC ?_ ?_<;>intro hc<;>try contradiction|refine zp (λ_=>yak w x) ?_|refine gG ?_|show AK _;intro J Z|refine gJ ?_|omega|exact aT
       all_goals exact ⟨k+1,by omega,by omega,⟨by rw [hnx];simp,by rw [hnx],by simp⟩,by rw [hnx];simp⟩
    .have e:k=b.wait.length:=by omega
     subst e;rw [xas] at hl ⊢;have hlR:=ycH yg w b.wait;generalize hqq:inK yg w b.wait=q at hl;have hlr:inR yg w b.wait=if q.1=true then q.2 else q.2++[w]:=by rw [inR,hqq]
     obtain ⟨q1,q2⟩:=q;simp only at hl hlr;cases q1 with
     | true=>
      rw [if_pos rfl] at hlr;rw [hlr];have qe:=aI qR (aI @zah @xam);repeat' first|refine gC ?_ ?_<;>intro hc<;>try contradiction|refine gG ?_|show AK _;intro J Z|refine gJ ?_|omega|exact aT
      all_goals first|exact .refl _
     | false=>
      rw [if_neg (by simp)] at hlr
      rw [hlr,xaO];have qe:=aI qR (aI @zah @xal);repeat' first|refine gC ?_ ?_<;>intro hc<;>try contradiction|refine gG ?_|show AK _;intro J Z|refine gJ ?_|omega|exact aT
      all_goals first|exact .refl _
  .have hq':=eq_false hq;have hC:zfC b w=zkY w:=za1 hq;rw [hC,if_neg hq];have qe:=aI qR (aI @hq' (aI @decide_false @xal));repeat' first|refine gC ?_ ?_<;>intro hc<;>try contradiction|refine za (yq w) ?_|(show zh _ _ _ _ (⟨_,.call 46,_,_,_⟩::_) _ _;refine ya (q:=.i .i64 0) (by first|rfl|(simp (disch:=omega) only [qG,qe,seval]<;>rfl)) ?_;(try (refine zF ?_)))|(show zh _ _ _ _ (⟨_,.call 48,_,_,_⟩::_) _ _;refine ya (q:=.i .i64 0) (by first|rfl|(simp (disch:=omega) only [qG,qe,seval]<;>rfl)) ?_;(try (refine zF ?_)))|refine gG ?_|show AK _;intro J Z|refine gJ ?_|omega|exact aT
   all_goals exact .refl _
 .by_cases h:zfC b w=0
  .rw [if_pos h,ycm,if_pos h,h];exact .refl _
  .rw [if_neg h,ycm,if_neg h];exact zbt _
def yw (l:List Lim) (b:Bk) (k:Nat):List Slt:=b.slots++(zgu l b k).Q.map zgP
def ydH (l:List Lim) (b:Bk) (hok:zfy b) (hl:zZ l=0) (hS:∀ k≤b.wait.length,(∀ s ∈ yw l b k,zdB s.req=0)/\(yw l b k).length<=64)
  (hH:∀ k w,b.wait[k]?=some w->(zei l ⟨yw l b k,[]⟩ w.req=0↔¬ztr l b.slots.length (zgu l b k) w)) :
  Pure prog 62 [.sl 11 (l.map Lim.pv),b.pv] (.tup [(srvB l b).pv,.sl 1 ((srvW l b).map .s)]):=by
 refine pz func62 f62.eq_1 λhw X hX=>?_
 obtain ⟨hs,hn1,hwl⟩:=hok;have qe:=@qR;repeat' first|refine gC ?_ ?_<;>intro hc<;>try contradiction|refine gG ?_|show AK _;intro J Z|refine gJ ?_|omega|exact aT
 refine zaO 100 9 1 [(0,.p (.sl 11 (l.map Lim.pv))),(3,.lp 3 0),(4,.lp 4 0),(6,.lp 6 0),(7,.row 100 0),(8,.p (.i .i64 0))] [(3,.box [.p (.sl 16 (b.slots.map Slt.pv)),.p (.sl 14 (b.wait.map Wsh.pv))] false),(4,.box [.p .nilsl,.p .nilsl] false),(6,.box [.p (.sl 16 (b.slots.map Slt.pv)),.p .nilsl] false)] ?_ ?_
 .simp only [Own,zaL,zaA,zbr,zax,qS,seval]<;>simp
 refine zaO 101 104 14 [(0,.p (.sl 11 (l.map Lim.pv))),(3,.lp 3 0),(4,.lp 4 0),(6,.lp 6 0),(7,.row 100 0),(8,.p (.i .i64 0))] [(3,.box [.p (.sl 16 (b.slots.map Slt.pv)),.p (.sl 14 (b.wait.map Wsh.pv))] false),(4,.box [.p .nilsl,.p .nilsl] false),(6,.box [.p (.sl 16 (b.slots.map Slt.pv)),.row 101 0] false),(100,.row 9 1 [] false)] ?_ ?_
 .simp only [Own,zaL,zaA,zbr,zax,qS,seval]<;>simp
 refine zi (κ:=Nat) (λk=>⟨[(0,.p (.sl 11 (l.map Lim.pv))),(3,.lp 3 0),(4,.lp 4 0),(6,.lp 6 0),(7,.row 100 (zgu l b k).Q.length),(8,.p (.i .i64 k))],[(3,.box [.p (.sl 16 (b.slots.map Slt.pv)),.p (.sl 14 (b.wait.map Wsh.pv))] false),(4,.box [.p .nilsl,.p .nilsl] false),(6,.box [.p (.sl 16 ((yw l b k).map Slt.pv)),.row 101 (zgu l b k).K.length] false),(100,.row 9 1 (((zgu l b k).Q.map (·.name)).map .s) false),(101,.row 104 14 ((zgu l b k).K.map Wsh.pv) false)],[],false⟩) (λk=>k<=b.wait.length) (λk=>b.wait.length - k) 0 ?_ ?_ ?_
 .refine gJ ?_;simp [zgu,yw,srv0]
 .simp
 .intro k hk;have hlen:=zj2 (l:=l) (b:=b) hk
  repeat first|refine gG ?_|show AK _;intro J Z|refine gJ ?_|omega|exact aT
  (refine gC ?_ ?_<;>intro hc<;>try contradiction)
  .obtain ⟨w,hx⟩:=zm (i:=k) (l:=b.wait) (by omega)
   obtain ⟨hv,hn64⟩:=hS k hk;have hnx:=zhA (l:=l) hx;have hSb:zfy ⟨yw l b k,[]⟩:=by
    refine ⟨λs h=>?_,by simp only;omega,by simp⟩
    rcases xaD.1 h with h|h
    .exact hs s h
    .obtain ⟨r,_,rfl⟩:=xaT.1 h;exact ⟨by simp [zgP],by simp [zgP]⟩
   have hP:Pure prog 51 [.sl 11 (l.map Lim.pv),.agg [.sl 16 ((yw l b k).map Slt.pv),.nilsl],w.req.pv] (.tup [(zjv l ⟨yw l b k,[]⟩ w.req).pv,.i .i64 (zei l ⟨yw l b k,[]⟩ w.req)]):=
    zud (ybL l ⟨yw l b k,[]⟩ w.req hSb hl hv hn64) ⟨.refl _,.agg ⟨.refl _,.nilsl _,trivial⟩,.refl _,trivial⟩
   have hHk:=hH k w hx
   by_cases hno:ztr l b.slots.length (zgu l b k) w
   .have hC:¬zei l ⟨yw l b k,[]⟩ w.req=0:=λk=>hHk.1 k hno
    have hC':=eq_false hC;rw [srvN,if_pos hno] at hnx;have hSn:yw l b (k+1)=yw l b k:=by rw [yw,yw,hnx]
    generalize yw l b k=S at *;have qe:=aI qR (aI @hx (aI @hC' (aI @decide_false @xal)));repeat' first|refine gC ?_ ?_<;>intro hc<;>try contradiction|refine za hP ?_|refine gG ?_|show AK _;intro J Z|refine gJ ?_|omega|exact aT
    all_goals exact ⟨k+1,by omega,by omega,⟨by rw [hnx],by simp⟩,by rw [hSn,hnx];simp,by rw [hnx],by rw [hnx];simp⟩
   .have hC:zei l ⟨yw l b k,[]⟩ w.req=0:=hHk.2 hno;have hC':=eq_true hC;rw [srvN,if_neg hno] at hnx;have hB:zjv l ⟨yw l b k,[]⟩ w.req=⟨yw l b k++[zgP w.req],[]⟩:=by rw [zjv,if_pos hC]
    have hSn:yw l b (k+1)=yw l b k++[zgP w.req]:=by rw [yw,yw,hnx];simp
    rw [hB] at hP;generalize yw l b k=S at *;have qe:=aI qR (aI @hx (aI @hC' (aI @decide_true @xam)));repeat' first|refine gC ?_ ?_<;>intro hc<;>try contradiction|refine za hP ?_|refine gG ?_|show AK _;intro J Z|refine gJ ?_|omega|exact aT
    all_goals exact ⟨k+1,by omega,by omega,⟨by rw [hnx];simp,by simp⟩,by rw [hSn,hnx]<;>simp,by rw [hnx]<;>simp,by rw [hnx]⟩
  .have e:k=b.wait.length:=by omega
   subst e;have qe:=aI qR @zah;repeat' first|refine gC ?_ ?_<;>intro hc<;>try contradiction|refine gG ?_|show AK _;intro J Z|refine gJ ?_|omega|exact aT
   all_goals first|exact .refl _
