/- Contracts of functions, for the claim. No conditions. -/
import Derived.Test.YtijgimeokgbifaaGreatRows
import Derived.Test.YtijgimeokgbifaaGreatA1
set_option linter.all false
set_option maxHeartbeats 8000000
set_option maxRecDepth 100000
namespace Go.Proofs.YtijgimeokgbifaaGreat
open Go.RowKit
def ya (ks:List Nat) (ag:Bool) (o:RO):Bool:=
 match o.op,o.guard with
 | .mset k a,none=>decide (k=ks) && a == ag
 | _,_=>false
def yaD (ks:List Nat) (ag:Bool) (x:Rec):Option (PV × PV):=
 if ya ks ag x.o=true then (match x.wr with
  | [(_,.mp es _)]=>es.getLast?
  | _=>none) else none
theorem yby {ks:List Nat} {ag:Bool} {o:RO} (h:ya ks ag o=true):o.op=.mset ks ag/\o.guard=none:=by
 unfold ya at h
 split at h
 .rename_i k a h1 h2
  simp only [Bool.and_eq_true,decide_eq_true_eq,beq_iff_eq] at h;obtain ⟨rfl,rfl⟩:=h;exact ⟨h1,h2⟩
 .cases h
theorem yeP {P:Program} {s:St} {o:RO} {v:LV} {wr:List (Nat × LObj)} {ks:List Nat} {ag:Bool} (hi:ya ks ag o=true) (h:zbu P s o v wr) :
  ∃ K key val es,uns (zd s o.args)=[.lm K,.p key,.p val]/\zI (zd s o.args)=true/\s.look K=some (.mp es false)/\keyOk ks ag key key/\v=.any/\wr=[(K,.mp (mput key val es) false)]:=by
 obtain ⟨h1,h2⟩:=yby hi;cases h with
 | @ev c pre eff g1 g2 g3 g4 g5=>
  rw [h2] at g1;simp only [gOf,Option.some.injEq] at g1;subst g1;obtain ⟨q3,q6⟩:=g3 rfl;rw [h1] at g2;unfold zb at g2
  split at g2<;>first|(cases g2;done)|skip
  all_goals try contradiction
  rename_i ks' ag' k key val e1 e2;injection e1 with e1 e3;subst e1;subst e3
  split at g2
  .rename_i es hes
   injection g2 with g2;injection g2 with g2 g7;subst g7;subst g2;refine ⟨k,key,val,es,e2,q3,hes,q6.1,?_,rfl⟩;rw [h2];rfl
  .cases g2
 | mv e=>rw [h1] at e;cases e
 | pick e=>rw [h1] at e;cases e
 | callA e=>rw [h1] at e;cases e
 | callB e=>rw [h1] at e;cases e
 | callV e=>rw [h1] at e;cases e
 | callVB e=>rw [h1] at e;cases e
 | callS e=>rw [h1] at e;cases e
 | callSV e=>rw [h1] at e;cases e
 | callN e=>rw [h2] at e;cases e
 | callH e=>rw [h1] at e;cases e
 | appH e=>rw [h1] at e;cases e
theorem yeO {P:Program} {s:St} {o:RO} {ks:List Nat} {ag:Bool} (hi:ya ks ag o=true) {K:Nat} {key val:PV} {es:List (PV × PV)} (h1:uns (zd s o.args)=[.lm K,.p key,.p val]) (h2:zI (zd s o.args)=true)
  (h3:s.look K=some (.mp es false)) (h4:keyOk ks ag key key) (h5:keysOk ks ag key es):zbu P s o .any [(K,.mp (mput key val es) false)]:=by
 obtain ⟨e1,e2⟩:=yby hi;have:zbu P s o (fin o.guard true .any) [(K,.mp (mput key val es) false)]:=.ev (c:=true) (pre:=keyOk ks ag key key/\keysOk ks ag key es) (eff:=⟨.any,some (K,.mp (mput key val es) false),false,[K]⟩) (by rw [e2];rfl) (by rw [e1,h1];simp only [zb,h3]) (λ_=>⟨h2,h4,h5⟩) (λ_=>rfl) (λe=>by cases e)
 rw [e2] at this;exact this
theorem ybu {key v:PV}:∀ (es:List (PV × PV)),(mput key v es).length<=es.length+1/\((mput key v es).length=es.length+1->mput key v es=es++[(key,v)])
 | []=>⟨by simp [mput],λ_=>rfl⟩
 | (k,u)::r=>by
  obtain ⟨h1,h2⟩:=ybu (key:=key) (v:=v) r;rw [mput]
  split
  .exact ⟨by simp,λh=>by simp at h⟩
  .exact ⟨by simpa using h1,λh=>by rw [h2 (by simpa using h)];rfl⟩
theorem ybt {key v:PV}:∀ {es:List (PV × PV)},(∀ a ∈ es,eqCells key.cells a.1.cells=false)->mput key v es=es++[(key,v)]
 | [],_=>rfl
 | (k,u)::r,h=>by
  rw [mput,if_neg (by rw [h (k,u) (by simp)];simp),ybt λa ha=>h a (by simp [ha])];rfl
theorem yab {ks:List Nat} {ag:Bool} {key:PV}:∀ {es:List (PV × PV)},(∀ a ∈ es,keyOk ks ag key a.1)->keysOk ks ag key es
 | [],_=>trivial
 | (k,u)::r,h=>⟨h (k,u) (by simp),yab λa ha=>h a (by simp [ha])⟩
theorem yaC {x:Rec} {K:Nat} (h:K ∉ x.wr.map (·.1)):oW x K=none:=by
 cases hq:oW x K with
 | none=>rfl
 | some b=>exact absurd (zhp (by simpa [oW] using congrArg Option.isSome hq)) h
section
variable {P:Program} {K:Nat} {ks:List Nat} {ag:Bool}
theorem ch_ins {l:List RO} {s s':St} {rs:List Rec} (h:Ch P l s rs s'):∀ (n m:Nat) (es0 E:List (PV × PV)),ov oW rs n (λj=>decide (j < n+m)) s.look K=some (.mp es0 false)->(∀ j x,rs[j]?=some x->ya ks ag x.o=true->m<=j/\x.wr.map (·.1)=[K]) ->
  (∀ j x,rs[j]?=some x->m<=j->ya ks ag x.o=false->K ∉ x.wr.map (·.1))->s'.look K=some (.mp E false) ->
  E.length<=es0.length+rs.countP (λx=>ya ks ag x.o)/\(E.length=es0.length+rs.countP (λx=>ya ks ag x.o)->E=es0++rs.filterMap (yaD ks ag) /\
   ∀ i x,rs[i]?=some x->ya ks ag x.o=true->∃ (si:St) (key val:PV),(∀ k,si.get k=ov gW rs n (λj=>decide (j < n+i)) s.get k)/\uns (zd si x.o.args)=[.lm K,.p key,.p val]/\zI (zd si x.o.args)=true/\keyOk ks ag key key/\x.v=.any/\x.wr.map (·.1)=[K]/\yaD ks ag x=some (key,val)):=by
 induction h with
 | nil s=>
  intro n m es0 E h1 h2 h3 h4;simp only [ov] at h1;rw [h1] at h4;injection h4 with h4;injection h4 with h4;subst h4;exact ⟨by simp,λ_=>⟨by simp,λi x hx=>by simp at hx⟩⟩
 | @cons o r s s' v wr rs hs hch ih=>
  intro n m es0 E h1 h2 h3 h4;have hget:∀ i k,ov gW (⟨o,v,wr,rdO s o⟩::rs) n (λj=>decide (j < n+(i+1))) s.get k=ov gW rs (n+1) (λj=>decide (j < n+1+i)) ((s.wrs wr).set o.dst v).get k:=λi k=>by
   simp only [ov];refine zby (λj y hy hw=>by simp only [decide_eq_decide];omega) ?_
   rw [zg7 s ⟨o,v,wr,rdO s o⟩ k];simp
  have hlk:((s.wrs wr).set o.dst v).look K=(oW ⟨o,v,wr,rdO s o⟩ K).getD (s.look K):=ze3 s ⟨o,v,wr,rdO s o⟩ K;cases m with
  | succ m=>
   have hni:ya ks ag o=false:=by
    cases hq:ya ks ag o with
    | false=>rfl
    | true=>have:=(h2 0 ⟨o,v,wr,rdO s o⟩ rfl hq).1;omega
   have h1':ov oW rs (n+1) (λj=>decide (j < n+1+m)) ((s.wrs wr).set o.dst v).look K=some (.mp es0 false):=by
    rw [<-h1];simp only [ov];refine zby (λj y hy hw=>by simp only [decide_eq_decide];omega) ?_
    rw [hlk];simp
   obtain ⟨g1,g2⟩:=ih (n+1) m es0 E h1' (λj x hx hq=>by have:=h2 (j+1) x (by simpa using hx) hq;exact ⟨by omega,this.2⟩) (λj x hx hj hq=>h3 (j+1) x (by simpa using hx) (by omega) hq) h4
   have hc:(⟨o,v,wr,rdO s o⟩::rs:List Rec).countP (λx=>ya ks ag x.o)=rs.countP (λx=>ya ks ag x.o):=by rw [List.countP_cons];simp [hni]
   rw [hc];refine ⟨g1,λhE=>?_⟩
   obtain ⟨g3,g4⟩:=g2 hE;refine ⟨?_,λi x hx hq=>?_⟩
   .rw [g3,List.filterMap_cons]
    have:yaD ks ag ⟨o,v,wr,rdO s o⟩=none:=by simp [yaD,hni]
    rw [this]
   .cases i with
    | zero=>simp at hx;subst hx;rw [hni] at hq;cases hq
    | succ i=>
     obtain ⟨si,key,val,k1,k2⟩:=g4 i x (by simpa using hx) hq
     exact ⟨si,key,val,λk=>by rw [k1 k,hget i k],k2⟩
  | zero=>
   have hz:∀ (f:Nat->Option LObj),ov oW (⟨o,v,wr,rdO s o⟩::rs) n (λj=>decide (j < n+0)) f K=f K:=λf=>zb3 (λj hj=>by simp;omega)
   rw [hz] at h1;have hz2:∀ (f:Nat->Option LObj),ov oW rs (n+1) (λj=>decide (j < n+1+0)) f K=f K:=λf=>zb3 (λj hj=>by simp;omega)
   cases hni:ya ks ag o with
   | false=>
    have hno:oW ⟨o,v,wr,rdO s o⟩ K=none:=yaC (h3 0 ⟨o,v,wr,rdO s o⟩ rfl (Nat.zero_le _) hni);rw [hno] at hlk;simp only [Option.getD_none] at hlk;obtain ⟨g1,g2⟩:=ih (n+1) 0 es0 E (by rw [hz2,hlk,h1]) (λj x hx hq=>⟨Nat.zero_le _,(h2 (j+1) x (by simpa using hx) hq).2⟩) (λj x hx hj hq=>h3 (j+1) x (by simpa using hx) (by omega) hq) h4
    have hc:(⟨o,v,wr,rdO s o⟩::rs:List Rec).countP (λx=>ya ks ag x.o)=rs.countP (λx=>ya ks ag x.o):=by rw [List.countP_cons];simp [hni]
    rw [hc];refine ⟨g1,λhE=>?_⟩
    obtain ⟨g3,g4⟩:=g2 hE;refine ⟨?_,λi x hx hq=>?_⟩
    .rw [g3,List.filterMap_cons]
     have:yaD ks ag ⟨o,v,wr,rdO s o⟩=none:=by simp [yaD,hni]
     rw [this]
    .cases i with
     | zero=>simp at hx;subst hx;rw [hni] at hq;cases hq
     | succ i=>
      obtain ⟨si,key,val,k1,k2⟩:=g4 i x (by simpa using hx) hq
      exact ⟨si,key,val,λk=>by rw [k1 k,hget i k],k2⟩
   | true=>
    obtain ⟨K',key,val,es,e1,e2,e3,e4,e5,e6⟩:=yeP hni hs;have hw:=(h2 0 ⟨o,v,wr,rdO s o⟩ rfl hni).2;have hK:K'=K:=by rw [e6] at hw;simpa using hw
    subst hK;rw [h1] at e3;injection e3 with e3;injection e3 with e3;subst e3;have hno:oW ⟨o,v,wr,rdO s o⟩ K'=some (some (.mp (mput key val es0) false)):=by
     subst e6;simp [oW,zgp]
    rw [hno] at hlk;simp only [Option.getD_some] at hlk;obtain ⟨g1,g2⟩:=ih (n+1) 0 (mput key val es0) E (by rw [hz2,hlk]) (λj x hx hq=>⟨Nat.zero_le _,(h2 (j+1) x (by simpa using hx) hq).2⟩) (λj x hx hj hq=>h3 (j+1) x (by simpa using hx) (by omega) hq) h4
    have hc:(⟨o,v,wr,rdO s o⟩::rs:List Rec).countP (λx=>ya ks ag x.o)=rs.countP (λx=>ya ks ag x.o)+1:=by rw [List.countP_cons];simp [hni]
    obtain ⟨l1,l2⟩:=ybu (key:=key) (v:=val) es0;rw [hc];refine ⟨by omega,λhE=>?_⟩
    have hm:=l2 (by omega)
    obtain ⟨g3,g4⟩:=g2 (by omega)
    have hen:yaD ks ag ⟨o,v,wr,rdO s o⟩=some (key,val):=by
     simp only [yaD,hni,if_true,e6,hm];simp
    refine ⟨?_,λi x hx hq=>?_⟩
    .rw [g3,List.filterMap_cons,hen,hm];simp
    .cases i with
     | zero=>
      simp at hx;subst hx;refine ⟨s,key,val,λk=>(zb3 (λj hj=>by simp;omega)).symm,e1,e2,e4,e5,hw,hen⟩
     | succ i=>
      obtain ⟨si,key,val,k1,k2⟩:=g4 i x (by simpa using hx) hq
      exact ⟨si,key,val,λk=>by rw [k1 k,hget i k],k2⟩
end
def cfM (ks:List Nat) (ag:Bool) (x y:Rec):Bool:=if (ya ks ag x.o && ya ks ag y.o)=true then (zdr x.wT y.rT || zdr x.wT y.wT || zdr x.rT y.wT) else cf x y
def oWn (ks:List Nat) (ag:Bool) (x:Rec) (k:Nat):Option (Option LObj):=if ya ks ag x.o=true then none else oW x k
def DD (a b:PV × PV):Prop:=eqCells a.1.cells b.1.cells=false/\eqCells b.1.cells a.1.cells=false
theorem DD.symm {a b:PV × PV} (h:DD a b):DD b a:=⟨h.2,h.1⟩
theorem ov_W {β:Type} {W W':Rec->Nat->Option β} {S T:Nat->Bool} {k:Nat}:∀ {rs:List Rec} {n:Nat} {f f':Nat->β},(∀ j x,rs[j]?=some x->(if S (n+j)=true then W x k else none)=(if T (n+j)=true then W' x k else none))->f k=f' k->ov W rs n S f k=ov W' rs n T f' k
 | [],n,f,f',_,hf=>hf
 | x::xs,n,f,f',h,hf=>by
  simp only [ov];refine ov_W (λj y hy=>?_) ?_
  .have:=h (j+1) y (by simpa using hy)
   rw [show n+1+j=n+(j+1) by omega];exact this
  .have:=h 0 x rfl
   simp only [Nat.add_zero] at this;have e:∀ (c:Bool) (o:Option β) (b:β),(if c=true then o.getD b else b)=(if c=true then o else none).getD b:=λc o b=>by cases c<;>rfl
   rw [e,e,this,hf]
theorem cfM_T {ks:List Nat} {ag:Bool} {x y:Rec} {k:Nat} (h1:k ∈ x.wT) (h2:k ∈ y.rT\/k ∈ y.wT):cfM ks ag x y=true/\cfM ks ag y x=true:=by
 have h:=cf_T h1 h2;unfold cfM
 constructor
 .split
  .rcases h2 with h2|h2<;>simp [zbz h1 h2]
  .exact h.1
 .split
  .rcases h2 with h2|h2<;>simp [zbz h2 h1]
  .exact h.2
theorem ye2 {ks:List Nat} {ag:Bool} {x y:Rec} {k:Nat} (hn:ya ks ag x.o=false\/ya ks ag y.o=false) (h1:k ∈ x.wO) (h2:k ∈ y.ro\/k ∈ y.wO):cfM ks ag x y=true/\cfM ks ag y x=true:=by
 have h:=cf_O h1 h2;unfold cfM;rw [if_neg (by rcases hn with e|e<;>simp [e]),if_neg (by rcases hn with e|e<;>simp [e])]
 exact h
theorem ydR {P:Program} {ro:Option Nat} {X:Fx} {ops:Array Oper} (hM:X.MOk) {L:List RO} {rs:List Rec} {s s':St} (hch:Ch P L s rs s') (hcomp:zaX P X.N ops ops.toList=some L) (ks:List Nat) (ag:Bool) (K m:Nat)
  (hlt:∀ (j:Nat) (y:Rec),rs[j]?=some y->∀ e ∈ y.o.after,e < j) (hcf:∀ (i j:Nat) (x y:Rec),i < j->rs[i]?=some x->rs[j]?=some y->cfM ks ag x y=true->dep 0 rs 3 i j=true)
  (hins:∀ (j:Nat) (x:Rec),rs[j]?=some x->ya ks ag x.o=true->m<=j/\x.wr.map (·.1)=[K]) (hnon:∀ (j:Nat) (x:Rec),rs[j]?=some x->m<=j->ya ks ag x.o=false->K ∉ x.ro/\K ∉ x.wO)
  (hm:ov oW rs 0 (λj=>decide (j < 0+m)) s.look K=some (.mp [] false)) {E:List (PV × PV)} (hE:s'.look K=some (.mp E false)) (hEl:E.length=rs.countP (λx=>ya ks ag x.o)) (hD:E.Pairwise DD) (hk:∀ a ∈ E,∀ b ∈ E,keyOk ks ag a.1 b.1)
  {QX:Exit->Act->World->Prop} (hQ:∀ es,es.Pairwise DD->(∀ p,p ∈ es↔p ∈ E)->∀ C a w,RelC X C s'.get (upd s'.look K (some (.mp es false))) s'.tr s'.stop a w->QX .normal a w) :
  ∀ (fuel:Nat) (listed:Array Bool) (a:Act) (w:World),listed.size=ops.size->ziA listed ops.size<=fuel->(∀ j o,L[j]?=some o->listed.getD j false=true->∀ e ∈ o.after,listed.getD e false=true) ->
  (∃ (C:Ctx) (σ:St) (es:List (PV × PV)),RelC X C σ.get σ.look σ.tr σ.stop a w/\σ.tr=s.tr/\σ.stop=s.stop/\(∀ k,σ.get k=ov gW rs 0 (λj=>listed.getD j false) s.get k)/\(∀ k,k≠K->σ.look k=ov oW rs 0 (λj=>listed.getD j false) s.look k) /\
   es.Pairwise DD/\(∀ p,p ∈ es↔∃ j x,rs[j]?=some x/\listed.getD j false=true/\yaD ks ag x=some p)/\((es≠[]/\σ.look K=some (.mp es false))\/(es=[]/\σ.look K=ov (oWn ks ag) rs 0 (λj=>listed.getD j false) s.look K))) ->
  wpAnyIn (zar ro) 0 P .any ops QX fuel listed a w:=by
 obtain ⟨hlen,htr,hst,hget,hlook⟩:=zyf hch 0
 obtain ⟨hcl,hcg⟩:=zaW hcomp
 have hn:L.length=ops.size:=by rw [<-hcl];simp
 have hnw:∀ (j:Nat) (x:Rec),rs[j]?=some x->m<=j->ya ks ag x.o=false->K ∉ x.wr.map (·.1):=λj x hx hj hi h=>(hnon j x hx hj hi).2 (List.mem_cons_of_mem _ h)
 obtain ⟨hEe,hat0⟩:=(ch_ins hch 0 m [] E hm hins hnw hE).2 (by simpa using hEl)
 rw [List.nil_append] at hEe
 have hmem:∀ p,p ∈ E↔∃ j x,rs[j]?=some x/\yaD ks ag x=some p:=λp=>by
  rw [hEe,List.mem_filterMap]
  constructor
  .rintro ⟨x,hx,h⟩
   obtain ⟨j,hj⟩:=List.mem_iff_getElem?.1 hx
   exact ⟨j,x,hj,h⟩
  .rintro ⟨j,x,hj,h⟩
   exact ⟨x,List.mem_of_getElem? hj,h⟩
 have hpair:∀ (i j:Nat) (x y:Rec) (p q:PV × PV),i≠j->rs[i]?=some x->rs[j]?=some y->yaD ks ag x=some p->yaD ks ag y=some q->DD p q:=by
  have h1:=hD
  rw [hEe,List.pairwise_filterMap] at h1
  have h2:=List.pairwise_iff_getElem.1 h1
  have key:∀ (i j:Nat) (x y:Rec) (p q:PV × PV),i < j->rs[i]?=some x->rs[j]?=some y->yaD ks ag x=some p->yaD ks ag y=some q->DD p q:=λi j x y p q hij hx hy hp hq=>by
   obtain ⟨g1,g2⟩:=List.getElem?_eq_some_iff.1 hx
   obtain ⟨g3,g4⟩:=List.getElem?_eq_some_iff.1 hy
   exact h2 i j g1 g3 hij p (by rw [g2];exact hp) q (by rw [g4];exact hq)
  intro i j x y p q hne hx hy hp hq
  rcases Nat.lt_or_gt_of_ne hne with h|h
  .exact key i j x y p q h hx hy hp hq
  .exact (key j i y x q p h hy hx hq hp).symm
 have hentI:∀ x p,yaD ks ag x=some p->ya ks ag x.o=true:=λx p h=>by
  unfold yaD at h
  split at h
  .assumption
  .cases h
 have hbase:∀ S:Nat->Bool,(∀ j y,rs[j]?=some y->j < m->(oW y K).isSome=true->S j=true)->ov (oWn ks ag) rs 0 S s.look K=some (.mp [] false):=λS hS=>by
  rw [<-hm]
  refine ov_W (λj y hy=>?_) rfl
  simp only [Nat.zero_add,decide_eq_true_eq]
  cases hi:ya ks ag y.o with
  | true=>
   have:=(hins j y hy hi).1
   rw [if_neg (show ¬j < m by omega)]
   simp [oWn,hi]
  | false=>
   have e1:oWn ks ag y K=oW y K:=by simp [oWn,hi]
   rw [e1]
   by_cases hj:j < m
   .rw [if_pos hj]
    cases hq:oW y K with
    | none=>simp
    | some b=>rw [if_pos (hS j y hy hj (by rw [hq];rfl))]
   .rw [if_neg hj,yaC (hnw j y hy (by omega) hi)];simp
 have hat:∀ (i:Nat) (oper:Oper),ops[i]?=some oper->∃ o,L[i]?=some o/\zcg P X.N ops oper=some o:=λi oper hi=>hcg i oper (by simpa using hi)
 have hrec:∀ (i:Nat),i < L.length->∃ x,rs[i]?=some x/\L[i]?=some x.o:=λi hi=>by
  have hx:=List.getElem?_eq_getElem (l:=rs) (i:=i) (by omega)
  obtain ⟨si,g1,_⟩:=zyg hch 0 i _ hx
  exact ⟨_,hx,g1⟩
 have hfin:∀ (listed:Array Bool) (a:Act) (w:World),(∀ i,i < L.length->listed.getD i false=true) ->
   (∃ (C:Ctx) (σ:St) (es:List (PV × PV)),RelC X C σ.get σ.look σ.tr σ.stop a w/\σ.tr=s.tr/\σ.stop=s.stop/\(∀ k,σ.get k=ov gW rs 0 (λj=>listed.getD j false) s.get k)/\(∀ k,k≠K->σ.look k=ov oW rs 0 (λj=>listed.getD j false) s.look k) /\
   es.Pairwise DD/\(∀ p,p ∈ es↔∃ j x,rs[j]?=some x/\listed.getD j false=true/\yaD ks ag x=some p)/\((es≠[]/\σ.look K=some (.mp es false))\/(es=[]/\σ.look K=ov (oWn ks ag) rs 0 (λj=>listed.getD j false) s.look K)))->QX .normal a w:=by
  rintro listed a w hall ⟨C,σ,es,h,h1,h2,h3,h4,h5,h6,h7⟩
  have hj:∀ j x,rs[j]?=some x->listed.getD j false=true:=λj x hx=>hall j (by have:=(List.getElem?_eq_some_iff.1 hx).1;omega)
  have e1:σ.get=s'.get:=funext λk=>by
   rw [h3 k,hget k]
   exact zby (λj x hx _=>by rw [Nat.zero_add];exact hj j x hx) rfl
  have hK:σ.look K=some (.mp es false):=by
   rcases h7 with ⟨_,h7⟩|⟨e,h7⟩
   .exact h7
   .rw [h7,e];exact hbase _ λj y hy _ _=>hj j y hy
  have e2:σ.look=upd s'.look K (some (.mp es false)):=funext λk=>by
   simp only [upd]
   by_cases e:k=K
   .rw [if_pos e,e];exact hK
   .rw [if_neg e,h4 k e,hlook k]
    exact zby (λj x hx _=>by rw [Nat.zero_add];exact hj j x hx) rfl
  rw [e1,e2,h1,h2,<-htr,<-hst] at h
  refine hQ es h5 (λp=>?_) C a w h
  rw [h6,hmem]
  exact ⟨λ⟨j,x,g1,_,g2⟩=>⟨j,x,g1,g2⟩,λ⟨j,x,g1,g2⟩=>⟨j,x,g1,hj j x g1,g2⟩⟩
 intro fuel
 induction fuel with
 | zero=>
  intro listed a w hs hl hc hst2
  have hall:=zhY (Nat.le_zero.1 hl)
  have hno:Region.ready .any ops listed=[]:=List.eq_nil_iff_forall_not_mem.2 λi hi=>by
   obtain ⟨oper,h1,h2,_⟩:=za1.1 hi
   have hlt:=(Array.getElem?_eq_some_iff.1 h1).1
   have:=hall i hlt
   rw [Array.getD_eq_getD_getElem?,Array.getElem?_eq_getElem (by omega)] at this h2
   simp only [Option.getD_some] at this h2
   rw [this] at h2;cases h2
  exact ⟨hno,hfin listed a w (λi hi=>hall i (by omega)) hst2⟩
 | succ fuel ih=>
  intro listed a w hs hl hc hst2
  by_cases hall2:∀ i,i < L.length->listed.getD i false=true
  .have hno:Region.ready .any ops listed=[]:=List.eq_nil_iff_forall_not_mem.2 λi hi=>by
    obtain ⟨oper,h1,h2,_⟩:=za1.1 hi
    have hlt:=(Array.getElem?_eq_some_iff.1 h1).1
    have:=hall2 i (by omega)
    rw [Array.getD_eq_getD_getElem?,Array.getElem?_eq_getElem (by omega)] at this h2
    simp only [Option.getD_some] at this h2
    rw [this] at h2;cases h2
   exact ⟨λ_=>hfin listed a w hall2 hst2,λi hi=>by rw [hno] at hi;cases hi⟩
  have hex:∃ i,i < L.length/\listed.getD i false=false/\∀ j,j < i->listed.getD j false=true:=by
   have key:∀ n,(∃ i,i < n/\listed.getD i false=false)->∃ i,i < n/\listed.getD i false=false/\∀ j,j < i->listed.getD j false=true:=by
    intro n
    induction n with
    | zero=>rintro ⟨i,hi,_⟩;omega
    | succ n ihn=>
     intro hx
     by_cases hy:∃ i,i < n/\listed.getD i false=false
     .obtain ⟨i,e1,e2,e3⟩:=ihn hy;exact ⟨i,by omega,e2,e3⟩
     .obtain ⟨i,e1,e2⟩:=hx
      have:i=n:=by
       by_cases e:i=n
       .exact e
       .exact absurd ⟨i,by omega,e2⟩ hy
      subst this
      exact ⟨i,by omega,e2,λj hj=>by
       cases hq:listed.getD j false with
       | true=>rfl
       | false=>exact absurd ⟨j,hj,hq⟩ hy⟩
   refine key _ ?_
   refine Classical.byContradiction λhno=>hall2 λi hi=>?_
   cases hq:listed.getD i false with
   | true=>rfl
   | false=>exact absurd ⟨i,hi,hq⟩ hno
  obtain ⟨i0,hi0,hf0,hb0⟩:=hex
  refine ⟨λhr=>?_,λii hi=>?_⟩
  .exfalso
   obtain ⟨x,hx,hLx⟩:=hrec i0 hi0
   have hlt0:i0 < ops.size:=by rw [<-hn];exact hi0
   have hoper:=Array.getElem?_eq_getElem hlt0
   obtain ⟨o,g1,hco⟩:=hat i0 _ hoper
   rw [hLx] at g1;injection g1 with g1
   have:i0 ∈ Region.ready .any ops listed:=za1.2 ⟨_,hoper,by
    rw [Array.getD_eq_getD_getElem?] at hf0 ⊢
    rw [Array.getElem?_eq_getElem (by omega)] at hf0 ⊢
    exact hf0,(zcX (zal hco) (listed:=λe=>listed.getD e false)).2 λe he=>hb0 e (by rw [<-g1] at he;exact hlt i0 x hx e he)⟩
   rw [hr] at this;cases this
  obtain ⟨oper,g1,g2,g3⟩:=za1.1 hi
  have hilt:=(Array.getElem?_eq_some_iff.1 g1).1
  have hun:listed.getD ii false=false:=by
   rw [Array.getD_eq_getD_getElem?,Array.getElem?_eq_getElem (by omega)] at g2 ⊢
   exact g2
  obtain ⟨o,hLo,hcx⟩:=hat ii oper g1
  have haf:=(zcX (zal hcx) (listed:=λe=>listed.getD e false)).1 g3
  obtain ⟨x,hx,hLx⟩:=hrec ii (by omega)
  rw [hLo] at hLx;injection hLx with hLx;subst hLx
  obtain ⟨si,_,k2,k3,k4,k5⟩:=zyg hch 0 ii x hx
  obtain ⟨C,σ,es,hrel,e1,e2,e3,e4,e5,e6,e7⟩:=hst2
  have hcR:∀ j y,rs[j]?=some y->listed.getD (0+j) false=true->∀ e ∈ y.o.after,listed.getD e false=true:=λj y hy hj=>by
   have hjl:j < L.length:=by rw [<-hlen];exact (List.getElem?_eq_some_iff.1 hy).1
   obtain ⟨y',hy',hLy⟩:=hrec j hjl
   rw [hy] at hy';injection hy' with hy';subst hy'
   exact hc j _ hLy (by rw [Nat.zero_add] at hj;exact hj)
  have hbef:∀ (j:Nat) (y:Rec),rs[j]?=some y->j≠ii->cfM ks ag y x=true/\cfM ks ag x y=true->listed.getD j false=decide (j < ii):=λj y hy hne hcf2=>by
   by_cases hji:j < ii
   .have hd:=hcf j ii y x hji hy hx hcf2.1
    have:listed.getD (0+j) false=true:=zfm (S:=λj=>listed.getD j false) hcR 3 j ii x hx haf hd
    rw [Nat.zero_add] at this
    rw [this];simp [hji]
   .have hij:ii < j:=by omega
    have hd:=hcf ii j x y hij hx hy hcf2.2
    cases hq:listed.getD j false with
    | false=>simp [hji]
    | true=>
     have:listed.getD (0+ii) false=true:=zfm (S:=λj=>listed.getD j false) hcR 3 ii j y hy (hcR j y hy (by rw [Nat.zero_add];exact hq)) hd
     rw [Nat.zero_add,hun] at this;cases this
  have hT:∀ k,k ∈ x.rT\/k ∈ x.wT->∀ j y,rs[j]?=some y->(gW y k).isSome=true->listed.getD (0+j) false=decide (j < 0+ii):=λk hk j y hy hw=>by
   rw [Nat.zero_add,Nat.zero_add]
   by_cases e:j=ii
   .subst e;rw [hun];simp
   .exact hbef j y hy e (cfM_T (zsV hw) hk)
  have aT:∀ k,k ∈ x.rT\/k ∈ x.wT->σ.get k=si.get k:=λk hk=>by
   rw [e3 k,k4 k]
   exact zby (λj y hy hw=>by rw [hT k hk j y hy hw];simp only [decide_eq_decide];omega) rfl
  have hgs:∀ j,(listed.setIfInBounds ii true).getD j false=if j=ii then true else listed.getD j false:=λj=>zg8 (by omega)
  have hcN:∀ j o,L[j]?=some o->(listed.setIfInBounds ii true).getD j false=true->∀ e ∈ o.after,(listed.setIfInBounds ii true).getD e false=true:=λj y hy hj e he=>by
   rw [hgs] at hj ⊢
   have:listed.getD e false=true:=by
    by_cases ej:j=ii
    .subst ej;rw [hLo] at hy;injection hy with hy;subst hy;exact haf e he
    .rw [if_neg ej] at hj;exact hc j y hy hj e he
   rw [this];simp
  have hGet:∀ (wr':List (Nat × LObj)) k,((σ.wrs wr').set x.o.dst x.v).get k=ov gW rs 0 (λj=>(listed.setIfInBounds ii true).getD j false) s.get k:=λwr' k=>by
   rw [zg7 σ ⟨x.o,x.v,wr',x.ro⟩ k]
   show (gW x k).getD (σ.get k)=_
   cases hw:gW x k with
   | none=>
    simp only [Option.getD_none]
    rw [e3 k]
    refine zby (λj y hy hwy=>?_) rfl
    rw [hgs,Nat.zero_add]
    by_cases ej:j=ii
    .subst ej;rw [hx] at hy;injection hy with hy;subst hy;rw [hw] at hwy;cases hwy
    .rw [if_neg ej]
   | some v=>
    have hk:k ∈ x.wT:=zsV (by rw [hw];rfl)
    have:=zja (W:=gW) (k:=k) (n:=0) (f:=s.get) hx
    rw [hw] at this
    simp only [Option.getD_some] at this ⊢
    rw [<-this]
    refine zby (λj y hy hwy=>?_) rfl
    rw [hgs,Nat.zero_add]
    by_cases ej:j=ii
    .subst ej;simp
    .have:=hT k (.inr hk) j y hy hwy
     rw [Nat.zero_add] at this
     rw [if_neg ej,this];simp only [decide_eq_decide];omega
  have hleft:ziA (listed.setIfInBounds ii true) ops.size<=fuel:=by have:=zg1 hilt hs hun;omega
  unfold wpOpIn
  rw [g1]
  cases hi2:ya ks ag x.o with
  | true=>
   obtain ⟨sj,key,val,q1,q2,q3,q4,q5,q6,q7⟩:=hat0 ii x hx hi2
   have hKx:K ∈ x.wO:=List.mem_cons_of_mem _ (by rw [q6];simp)
   have hmi:=(hins ii x hx hi2).1
   have hKl:σ.look K=some (.mp es false):=by
    rcases e7 with ⟨_,h7⟩|⟨e,h7⟩
    .exact h7
    .rw [h7,e]
     refine hbase _ λj y hy hjm hw=>?_
     have hyn:ya ks ag y.o=false:=by
      cases hq:ya ks ag y.o with
      | false=>rfl
      | true=>have:=(hins j y hy hq).1;omega
     have:=hbef j y hy (by omega) (ye2 (.inl hyn) (zsO hw) (.inr hKx))
     rw [this];simp;omega
   have hraw:zd σ x.o.args=zd sj x.o.args:=List.map_congr_left λz hz=>by
    cases z with
    | t n=>
     have h1:=aT n (.inl (List.mem_append_right _ (List.mem_flatMap.2 ⟨_,hz,by simp [AOpd.tmps]⟩)))
     show σ.get n=sj.get n
     rw [h1,q1 n,k4 n]
    | c v=>rfl
   have hp:(key,val) ∈ E:=(hmem _).2 ⟨ii,x,hx,q7⟩
   have hes:∀ a ∈ es,a ∈ E/\DD (key,val) a:=λa ha=>by
    obtain ⟨j,y,h1,h2,h3⟩:=(e6 a).1 ha
    refine ⟨(hmem _).2 ⟨j,y,h1,h3⟩,hpair ii j x y _ _ (λe=>?_) hx h1 q7 h3⟩
    rw [<-e,hun] at h2;cases h2
   have hsem:zbu P σ x.o x.v [(K,.mp (mput key val es) false)]:=by
    rw [q5]
    exact yeO hi2 (by rw [hraw];exact q2) (by rw [hraw];exact q3) hKl q4 (yab λa ha=>hk _ hp _ (hes a ha).1)
   rw [ybt λa ha=>(hes a ha).2.1] at hsem
   refine zb5 (X:=X) (s:=σ) hsem hcx rfl hM hrel λC' a' w' hr'=>?_
   refine ih _ a' w' (by simpa using hs) hleft hcN ⟨C',(σ.wrs [(K,.mp (es++[(key,val)]) false)]).set x.o.dst x.v,es++[(key,val)],?_,?_,?_,hGet _,λk hkK=>?_,?_,λp=>?_,.inl ⟨by simp,?_⟩⟩
   .rw [(z7 _ _ _).1,(zbh _ _).1,(z7 _ _ _).2,(zbh _ _).2];exact hr'
   .rw [(z7 _ _ _).1,(zbh _ _).1];exact e1
   .rw [(z7 _ _ _).2,(zbh _ _).2];exact e2
   .rw [ze3 σ ⟨x.o,x.v,[(K,.mp (es++[(key,val)]) false)],x.ro⟩ k,yaC (by simpa using hkK)]
    show σ.look k=_
    rw [e4 k hkK]
    refine zby (λj y hy hwy=>?_) rfl
    rw [hgs,Nat.zero_add]
    by_cases ej:j=ii
    .subst ej;rw [hx] at hy;injection hy with hy;subst hy
     rw [yaC (by rw [q6];simpa using hkK)] at hwy;cases hwy
    .rw [if_neg ej]
   .rw [List.pairwise_append]
    refine ⟨e5,by simp,λa ha b hb=>?_⟩
    rw [List.mem_singleton.1 hb];exact (hes a ha).2.symm
   .rw [List.mem_append,e6,List.mem_singleton]
    constructor
    .rintro (⟨j,y,h1,h2,h3⟩|rfl)
     .exact ⟨j,y,h1,by rw [hgs];split<;>first|rfl|exact h2,h3⟩
     .exact ⟨ii,x,hx,by rw [hgs,if_pos rfl],q7⟩
    .rintro ⟨j,y,h1,h2,h3⟩
     rw [hgs] at h2
     by_cases ej:j=ii
     .subst ej;rw [hx] at h1;injection h1 with h1;subst h1
      rw [q7] at h3;injection h3 with h3;exact .inr h3.symm
     .rw [if_neg ej] at h2;exact .inl ⟨j,y,h1,h2,h3⟩
   .rw [ze3 σ ⟨x.o,x.v,[(K,.mp (es++[(key,val)]) false)],x.ro⟩ K]
    simp [oW,zgp]
  | false=>
   have hO:∀ k,k ∈ x.ro\/k ∈ x.wO->∀ j y,rs[j]?=some y->(oW y k).isSome=true->listed.getD (0+j) false=decide (j < 0+ii):=λk hk j y hy hw=>by
    rw [Nat.zero_add,Nat.zero_add]
    by_cases e:j=ii
    .subst e;rw [hun];simp
    .exact hbef j y hy e (ye2 (.inr hi2) (zsO hw) hk)
   have hK0:K ∈ x.ro\/K ∈ x.wO->ii < m/\es=[]/\ov (oWn ks ag) rs 0 (λj=>listed.getD j false) s.look K=si.look K:=λhk=>by
    have him:ii < m:=Nat.not_le.1 λh=>by
     obtain ⟨h1,h2⟩:=hnon ii x hx h hi2
     exact hk.elim h1 h2
    refine ⟨him,List.eq_nil_iff_forall_not_mem.2 λp hp=>?_,?_⟩
    .obtain ⟨j,y,h1,h2,h3⟩:=(e6 p).1 hp
     have hyi:=hentI y p h3
     obtain ⟨hmj,hwj⟩:=hins j y h1 hyi
     have:=hbef j y h1 (by omega) (ye2 (.inr hi2) (List.mem_cons_of_mem _ (by rw [hwj];simp)) hk)
     rw [this] at h2;simp at h2;omega
    .rw [k5 K]
     refine ov_W (λj y hy=>?_) rfl
     cases hyi:ya ks ag y.o with
     | true=>
      have:=(hins j y hy hyi).1
      rw [if_neg (show ¬decide (0+j < 0+ii)=true by simp;omega)]
      simp [oWn,hyi]
     | false=>
      have e1:oWn ks ag y K=oW y K:=by simp [oWn,hyi]
      rw [e1]
      cases hq:oW y K with
      | none=>simp
      | some b=>rw [hO K hk j y hy (by rw [hq];rfl)];simp
   have aO:∀ k,k ∈ x.ro\/k ∈ x.wO->σ.look k=si.look k:=λk hk=>by
    by_cases e:k=K
    .subst e
     obtain ⟨h1,h2,h3⟩:=hK0 hk
     rcases e7 with ⟨h7,_⟩|⟨_,h7⟩
     .exact absurd h2 h7
     .rw [h7,h3]
    .rw [e4 k e,k5 k]
     exact zby (λj y hy hw=>by rw [hO k hk j y hy hw];simp only [decide_eq_decide];omega) rfl
   have hsem:zbu P σ x.o x.v x.wr:=zjc k2 (λt ht=>aT t (.inl ht)) (λk hk=>aO k (.inl (by rw [k3];exact hk))) (aO _ (.inr List.mem_cons_self)) (λk hk=>aO k (.inr (List.mem_cons_of_mem _ hk)))
   have hnent:yaD ks ag x=none:=by simp [yaD,hi2]
   refine zb5 (X:=X) (s:=σ) hsem hcx rfl hM hrel λC' a' w' hr'=>?_
   refine ih _ a' w' (by simpa using hs) hleft hcN ⟨C',(σ.wrs x.wr).set x.o.dst x.v,es,?_,?_,?_,hGet _,λk hkK=>?_,e5,λp=>?_,?_⟩
   .rw [(z7 _ _ _).1,(zbh _ _).1,(z7 _ _ _).2,(zbh _ _).2];exact hr'
   .rw [(z7 _ _ _).1,(zbh _ _).1];exact e1
   .rw [(z7 _ _ _).2,(zbh _ _).2];exact e2
   .rw [ze3 σ x k]
    cases hw:oW x k with
    | none=>
     simp only [Option.getD_none]
     rw [e4 k hkK]
     refine zby (λj y hy hwy=>?_) rfl
     rw [hgs,Nat.zero_add]
     by_cases ej:j=ii
     .subst ej;rw [hx] at hy;injection hy with hy;subst hy;rw [hw] at hwy;cases hwy
     .rw [if_neg ej]
    | some v=>
     have hk:k ∈ x.wO:=zsO (by rw [hw];rfl)
     have:=zja (W:=oW) (k:=k) (n:=0) (f:=s.look) hx
     rw [hw] at this
     simp only [Option.getD_some] at this ⊢
     rw [<-this]
     refine zby (λj y hy hwy=>?_) rfl
     rw [hgs,Nat.zero_add]
     by_cases ej:j=ii
     .subst ej;simp
     .have:=hO k (.inr hk) j y hy hwy
      rw [Nat.zero_add] at this
      rw [if_neg ej,this];simp only [decide_eq_decide];omega
   .rw [e6]
    constructor
    .rintro ⟨j,y,h1,h2,h3⟩
     exact ⟨j,y,h1,by rw [hgs];split<;>first|rfl|exact h2,h3⟩
    .rintro ⟨j,y,h1,h2,h3⟩
     rw [hgs] at h2
     by_cases ej:j=ii
     .subst ej;rw [hx] at h1;injection h1 with h1;subst h1;rw [hnent] at h3;cases h3
     .rw [if_neg ej] at h2;exact ⟨j,y,h1,h2,h3⟩
   .rw [ze3 σ x K]
    cases hw:oW x K with
    | none=>
     simp only [Option.getD_none]
     have:ov (oWn ks ag) rs 0 (λj=>(listed.setIfInBounds ii true).getD j false) s.look K=ov (oWn ks ag) rs 0 (λj=>listed.getD j false) s.look K:=by
      refine zby (λj y hy hwy=>?_) rfl
      rw [hgs,Nat.zero_add]
      by_cases ej:j=ii
      .subst ej;rw [hx] at hy;injection hy with hy;subst hy
       simp [oWn,hi2,hw] at hwy
      .rw [if_neg ej]
     rw [this];exact e7
    | some v=>
     have hkw:K ∈ x.wO:=zsO (by rw [hw];rfl)
     obtain ⟨him,hes,_⟩:=hK0 (.inr hkw)
     refine .inr ⟨hes,?_⟩
     have:=zja (W:=oW) (k:=K) (n:=0) (f:=s.look) hx
     rw [hw] at this
     simp only [Option.getD_some] at this ⊢
     rw [<-this]
     refine (ov_W (λj y hy=>?_) rfl).symm
     rw [Nat.zero_add,hgs]
     cases hyi:ya ks ag y.o with
     | true=>
      have:=(hins j y hy hyi).1
      rw [if_neg (show ¬decide (j < 0+(ii+1))=true by simp;omega)]
      simp [oWn,hyi]
     | false=>
      have e1:oWn ks ag y K=oW y K:=by simp [oWn,hyi]
      rw [e1]
      cases hq:oW y K with
      | none=>simp
      | some b=>
       by_cases ej:j=ii
       .subst ej;simp
       .have:=hO K (.inr hkw) j y hy (by rw [hq];rfl)
        rw [Nat.zero_add] at this
        rw [if_neg ej,this]
        have:(j < ii)↔(j < 0+(ii+1)):=by omega
        simp [this]
def cfFM (both:Bool) (x y:Ft):Bool:=if both=true then (zdr x.wt y.rt || zdr x.wt y.wt || zdr x.rt y.wt) else cfF x y
def isMk (K:Nat) (o:RO):Bool:=match o.op,o.guard,o.dst with
 | .mkmap,none,some d=>d == K
 | _,_,_=>false
def yaE (ks : List Nat) (ag : Bool) (K m : Nat) (l : List RO) (fs : List Ft) : Bool :=
  decide (1 <= m) && (match l[m - 1]? with | some o => isMk K o | none => false) &&
  (List.range fs.length).all λj => match fs[j]?, l[j]? with
    | some y, some oy => !y.yl && (y.af.all λe => decide (e < j)) && (if ya ks ag oy then decide (m <= j) && (y.wo.tail == [K]) else decide (j < m) || (!y.ro.contains K && !y.wo.contains K)) &&
      (List.range j).all λi => match fs[i]?, l[i]? with
        | some x, some ox => !cfFM (ya ks ag ox && ya ks ag oy) x y || zrX fs 3 i j
        | _, _ => true
    | _, _ => false
theorem yd3 (n j:Nat):(Array.replicate n false).getD j false=false:=by
 rw [Array.getD_eq_getD_getElem?]
 by_cases e:j < n
 .rw [Array.getElem?_eq_getElem (by simpa using e)];simp
 .rw [Array.getElem?_eq_none (by simpa using e)];simp
theorem yeM {K:Nat} {o:RO} (h:isMk K o=true):o.op=.mkmap/\o.guard=none/\o.dst=some K:=by
 unfold isMk at h
 split at h
 .rename_i d h1 h2 h3
  exact ⟨h1,h2,by rw [h3];simpa using h⟩
 .cases h
theorem mk_inv {P:Program} {s:St} {o:RO} {v:LV} {wr:List (Nat × LObj)} {K:Nat} (hi:isMk K o=true) (h:zbu P s o v wr):wr=[(K,.mp [] false)]:=by
 obtain ⟨h1,h2,h3⟩:=yeM hi;cases h with
 | @ev c pre eff g1 g2 g3 g4 g5=>
  rw [h1,h3] at g2;unfold zb at g2
  split at g2<;>first|(cases g2;done)|skip
  all_goals try contradiction
  injection g2 with g2;injection g2 with g2 g7;subst g7;rfl
 | mv e=>rw [h1] at e;cases e
 | pick e=>rw [h1] at e;cases e
 | callA e=>rw [h1] at e;cases e
 | callB e=>rw [h1] at e;cases e
 | callV e=>rw [h1] at e;cases e
 | callVB e=>rw [h1] at e;cases e
 | callS e=>rw [h1] at e;cases e
 | callSV e=>rw [h1] at e;cases e
 | callN e=>rw [h2] at e;cases e
 | callH e=>rw [h1] at e;cases e
 | appH e=>rw [h1] at e;cases e
theorem yb3 {ks:List Nat} {ag:Bool} {K m:Nat} {l:List RO} {fs:List Ft} (h:yaE ks ag K m l fs=true) :
  1<=m/\(∃ o,l[m - 1]?=some o/\isMk K o=true)/\∀ j y,fs[j]?=some y->∃ oy,l[j]?=some oy/\(∀ e ∈ y.af,e < j)/\(ya ks ag oy=true->m<=j/\y.wo.tail=[K])/\(ya ks ag oy=false->m<=j->K ∉ y.ro/\K ∉ y.wo) /\
   ∀ i x ox,i < j->fs[i]?=some x->l[i]?=some ox->cfFM (ya ks ag ox && ya ks ag oy) x y=true->zrX fs 3 i j=true:=by
 simp only [yaE,Bool.and_eq_true,decide_eq_true_eq,List.all_eq_true,List.mem_range] at h;obtain ⟨⟨h1,h2⟩,h3⟩:=h;refine ⟨h1,?_,λj y hy=>?_⟩
 .split at h2
  .rename_i o ho;exact ⟨o,ho,h2⟩
  .cases h2
 .have hj:j < fs.length:=(List.getElem?_eq_some_iff.1 hy).1
  have h4:=h3 j hj;rw [hy] at h4;cases hl:l[j]? with
  | none=>simp [hl] at h4
  | some oy=>
   simp only [hl,Bool.and_eq_true,List.all_eq_true,decide_eq_true_eq,List.mem_range] at h4;obtain ⟨⟨⟨_,h5⟩,h6⟩,h7⟩:=h4;refine ⟨oy,rfl,h5,λhi=>?_,λhi hm=>?_,λi x ox hij hx hox hc=>?_⟩
   .rw [if_pos hi] at h6
    simpa using h6
   .rw [if_neg (by rw [hi];simp)] at h6
    simp only [Bool.or_eq_true,decide_eq_true_eq,Bool.and_eq_true,Bool.not_eq_true',List.contains_eq_mem,decide_eq_false_iff_not] at h6;exact h6.resolve_left (by omega)
   .have h8:=h7 i hij
    rw [hx,hox] at h8;simpa [hc] using h8
theorem yci {G:Cfg} {s:St} {Q:zN} {l:List RO} (ks:List Nat) (ag:Bool) (K m:Nat) (hm:G.P.follows .mixedOrders=true) (hts:G.ts=[])
  (h:∀ Kf:St->List Ft->Prop,(∀ s' acc,yaE ks ag K m l acc.reverse=true->(∃ E,s'.look K=some (.mp E false)/\E.length=l.countP (ya ks ag)/\E.Pairwise DD/\(∀ a ∈ E,∀ b ∈ E,keyOk ks ag a.1 b.1)/\∀ es,es.Pairwise DD->(∀ p,p ∈ es↔p ∈ E)->Q .normal (s'.wr K (.mp es false)))->Kf s' acc) ->
   zB true (zi G.P G.ts true Kf) l s []):Run G (.ops true l) s Q:=by
 intro hG code hc C a w hr;cases code<;>simp only [zC,Option.map_eq_some_iff] at hc
 case region id ops draw=>
  obtain ⟨l',h1,hc⟩:=hc;injection hc with e1 e2;subst e1;subst e2;have hrun:=zE (h (λs' acc=>yaE ks ag K m l' acc.reverse=true/\∃ E,s'.look K=some (.mp E false)/\E.length=l'.countP (ya ks ag)/\E.Pairwise DD/\(∀ a ∈ E,∀ b ∈ E,keyOk ks ag a.1 b.1)/\∀ es,es.Pairwise DD->(∀ p,p ∈ es↔p ∈ E)->Q .normal (s'.wr K (.mp es false))) λs acc h1 h2=>⟨h1,h2⟩)
  have hb:Below w.heap.size w { w with drawn:=w.drawn+1 }:=⟨rfl,rfl,rfl,Nat.le_refl _,λ_ _=>rfl⟩
  have hr1:=hr.grow hb C.B (λ_ h=>h) (λb hb=>.inl hb)
  refine wpIn_region_any hm ?_
  rcases zcr hrun with ⟨rs,s',hch,hok,E,hE,hEl,hD,hk,hQ⟩|⟨l1,o,l2,rs,s1,t,ks',he,hch,hyo,hrest⟩
  .rw [List.append_nil,List.reverse_reverse] at hok
   obtain ⟨h1m,⟨om,hom,hmk⟩,hj⟩:=yb3 hok;obtain ⟨c1,c2⟩:=zs4 hch;have hft:∀ (j:Nat) (x:Rec),rs[j]?=some x->(rs.map Rec.ft)[j]?=some x.ft:=λj x hx=>by simp [hx]
   have hlo:∀ (j:Nat) (x:Rec),rs[j]?=some x->l'[j]?=some x.o:=λj x hx=>by
    obtain ⟨si,g1,_⟩:=zyg hch 0 j x hx;exact g1
   have hcnt:l'.countP (ya ks ag)=rs.countP (λx=>ya ks ag x.o):=by
    have:l'=rs.map (·.o):=by
     refine List.ext_getElem? λi=>?_
     rw [List.getElem?_map];cases hq:rs[i]? with
     | none=>
      have:=List.getElem?_eq_none_iff.1 hq;simp;omega
     | some x=>rw [hlo i x hq];rfl
    rw [this,List.countP_map];rfl
   have hat:∀ (j:Nat) (x:Rec),rs[j]?=some x->(∀ e ∈ x.o.after,e < j)/\(ya ks ag x.o=true->m<=j/\x.ft.wo.tail=[K])/\(ya ks ag x.o=false->m<=j->K ∉ x.ft.ro/\K ∉ x.ft.wo)/\∀ i y oy,i < j->(rs.map Rec.ft)[i]?=some y->l'[i]?=some oy->cfFM (ya ks ag oy && ya ks ag x.o) y x.ft=true->zrX (rs.map Rec.ft) 3 i j=true:=λj x hx=>by
    obtain ⟨oy,g1,g2,g3,g4,g5⟩:=hj j _ (hft j x hx);rw [hlo j x hx] at g1;injection g1 with g1;subst g1;exact ⟨g2,g3,g4,g5⟩
   have hlt2:∀ (j:Nat) (y:Ft),(rs.map Rec.ft)[j]?=some y->∀ e ∈ y.af,e < j:=λj y hy=>by
    obtain ⟨oy,_,g2,_⟩:=hj j y hy;exact g2
   obtain ⟨xm,hxm,hxo⟩:=c2 (m - 1) om hom;obtain ⟨sm,_,k2,_,_,_⟩:=zyg hch 0 (m - 1) xm hxm;have hwm:=mk_inv (by rw [hxo];exact hmk) k2
   have A1:∀ (i j:Nat) (x y:Rec),i < j->rs[i]?=some x->rs[j]?=some y->cfM ks ag x y=true->dep 0 rs 3 i j=true:=λi j x y hij hx hy hc=>by
    have h5:=(hat j y hy).2.2.2 i _ x.o hij (hft i x hx) (hlo i x hx) hc;have hjl:=(List.getElem?_eq_some_iff.1 hy).1;exact zkS (b:=0) (fs:=rs.map Rec.ft) hlt2 (λj x hx=>by rw [Nat.zero_add];exact hft j x hx) 3 i j hjl (by rw [Nat.zero_add,Nat.zero_add];exact h5)
   have A2:∀ (j:Nat) (x:Rec),rs[j]?=some x->ya ks ag x.o=true->m<=j/\x.wr.map (·.1)=[K]:=λj x hx hi=>(hat j x hx).2.1 hi
   have A3:ov oW rs 0 (λj=>decide (j < 0+m)) s.look K=some (.mp [] false):=by
    have h5:=zja (W:=oW) (k:=K) (n:=0) (f:=s.look) hxm;rw [show m - 1+1=m by omega] at h5
    rw [h5,oW,hwm];simp [zgp]
   have A4:ziA (Array.replicate ops.size false) ops.size<=ops.size:=by
    unfold ziA;exact Nat.le_trans (List.countP_le_length) (by simp)
   refine ydR hG.mok hch h1 ks ag K m (λj y hy=>(hat j y hy).1) A1 A2 (λj x hx hmj hi=>(hat j x hx).2.2.1 hi hmj) A3 hE (by rw [hEl,hcnt]) hD hk (λes g1 g2 C a w hr=>⟨s'.wr K (.mp es false),C,?_,hQ es g1 g2⟩) ops.size _ a _ (by simp) A4 (λj o hj2 hl=>by rw [yd3 ops.size j] at hl;cases hl)
    ⟨C,s,[],hr1,rfl,rfl,λk=>(zb3 λj _=>yd3 ops.size j).symm,λk _=>(zb3 λj _=>yd3 ops.size j).symm,.nil,λp=>⟨λh=>(by simp at h),λ⟨j,x,_,h5,_⟩=>(by rw [yd3 ops.size j] at h5;cases h5)⟩,.inr ⟨rfl,(zb3 λj _=>yd3 ops.size j).symm⟩⟩
   rw [show (s'.wr K (.mp es false)).look=upd s'.look K (some (.mp es false)) from zbn _ _ _]
   exact hr
  .obtain ⟨_,_,_,_,_,_,_,_,_,_,_,post,hts2⟩:=hyo
   rw [hts] at hts2;simp at hts2
 all_goals first|(cases hc;done)|(obtain ⟨_,_,hc⟩:=hc;cases hc;done)|(split at hc<;>cases hc;done)
theorem y9 {k:ByteArray} {v:PV}:∀ {l:List (PV × PV)},(∀ a ∈ l,∃ b,a.1=.s b)->l.Pairwise DD->(mget (.s k) l=some v↔(.s k,v) ∈ l)
 | [],_,_=>by simp [mget]
 | (q,u)::r,hs,hd=>by
  obtain ⟨b,hb⟩:=hs (q,u) (by simp)
  simp only at hb;subst hb;have e:∀ a b:ByteArray,eqCells (PV.cells (.s a)) (PV.cells (.s b))=decide (a=b):=λa b=>by simp [PV.cells,eqCells,eqPV]
  rw [List.pairwise_cons] at hd;rw [mget,e]
  by_cases h:k=b
  .subst h
   simp only [decide_true,if_true,Option.some.injEq,List.mem_cons,Prod.mk.injEq,true_and]
   constructor
   .rintro rfl;exact .inl rfl
   .rintro (rfl|h)
    .rfl
    .have:=(hd.1 _ h).1
     rw [e] at this;simp at this
  .simp only [decide_eq_true_eq,if_neg h,List.mem_cons,Prod.mk.injEq,PV.s.injEq,h,false_and,false_or]
   exact y9 (λa ha=>hs a (by simp [ha])) hd.2
theorem ycx {k:ByteArray} {l m:List (PV × PV)} (hs:∀ a ∈ l,∃ b,a.1=.s b) (hl:l.Pairwise DD) (hm:m.Pairwise DD) (h:∀ p,p ∈ m↔p ∈ l):mget (.s k) m=mget (.s k) l:=by
 refine Option.ext λv=>?_
 rw [y9 (λa ha=>hs a ((h a).1 ha)) hm,y9 hs hl,h]
def ya5 (G:Cfg) (code:Code) (s:St) (Q:zN):Prop:=
 G.Ok->∀ C a w,RelC G.X C s.get s.look s.tr s.stop a w->code.wpIn (zar G.ro) 0 G.P (QQ G Q) a w
theorem ycj {G:Cfg} {code:Code} {c:AC} {s:St} {Q:zN} (hc:zC G.P G.X.N code=some c) (h:Run G c s Q):ya5 G code s Q:=λhG=>h hG code hc
theorem yaO {G:Cfg} {y:Code} {s:St} {Q:zN} (s':St) (hc:Cov s s') (h:ya5 G y s' Q):ya5 G y s Q:=λhG C a w hr=>h hG C a w (zbr hc hr)
section
variable {X:Fx} {C:Ctx} {g:Nat->LV} {look:Nat->Option LObj} {tr:List (List PV)} {stop:Bool} {a:Act} {w:World} {P:Program} {o:Oper}
theorem yaz (h:RelC X C g look tr stop a w) {d:Nat} (hd:d < X.N) (hg:g d=.any) (v:Value):RelC X C g look tr stop (a.put (some d) v) w:=by
 have h1:=h.put hd (.any v) .any;have e:upd g d .any=g:=by funext t;simp only [upd];split<;>simp_all
 rwa [e] at h1
theorem yk {d t:Nat} {v:Value} (h:t≠d):(a.put (some d) v).eval (.tmp t)=a.eval (.tmp t):=by
 simp [Act.put,Act.eval,Array.getD_eq_getD_getElem?,Array.getElem?_setIfInBounds,Ne.symm h]
theorem yae (h:RelC X C g look tr stop a w) {d:Nat} {v:Value} (hd:d < X.N):(a.put (some d) v).eval (.tmp d)=v:=by
 have hl:d < a.tmps.size:=by rw [h.tsz];exact hd
 simp [Act.put,Act.eval,Array.getD_eq_getD_getElem?,hl]
theorem ev_lp (h:RelC X C g look tr stop a w) {t k off:Nat} (ht:t < GB) (hg:g t=.lp k off):a.eval (.tmp t)=.pointer (some ⟨C.ρ k,off,none⟩):=by
 have h1:=h.env t;rw [zaO ht,hg] at h1;show a.tmps.getD t undef=_;generalize a.tmps.getD t undef=v at h1;cases h1;rfl
theorem ydM {tA e:TypeId} {n b:Nat} {x:Operand} (ho:o.op=.slice tA x none none none) (hA:P.underlying tA=some (.array n e)) {sz:Nat} (he:zX P e=some sz) (hx:a.eval x=.pointer (some ⟨b,0,none⟩)) :
  (execOp a.eval o).run P w=.ok (.value (.slice (some ⟨b,0,none⟩) n n)) w:=by
 have hsize:(sizeOf e).run P w=.ok sz w:=zQ he
 by_cases h0:n=0
 .simp [execOp,ho,hx,Instr.sliceAt,run_underlying hA,Instr.sureAddr,Instr.sliceBounds,hsize,h0]
 .simp [execOp,ho,hx,Instr.sliceAt,run_underlying hA,Instr.sureAddr,Instr.sliceBounds,hsize,h0,Addr.add_lit0]
theorem ydO {t:TypeId} {x:Operand} {f s off b:Nat} {fs:Array Field} {fl:Field} (ho:o.op=.fieldAddr t x f) (ht:P.underlying t=some (.struct fs)) (hf:fs[f]?=some fl) (hs:zX P fl.type=some s) (h0:s≠0) (hx:a.eval x=.pointer (some ⟨b,off,none⟩)) :
  (execOp a.eval o).run P w=.ok (.value (.pointer (some ⟨b,off+fl.offset,none⟩))) w:=by
 simp [execOp,ho,hx,zc6 ht hf hs h0,Addr.add_lit0]
theorem ydN (h:RelC X C g look tr stop a w) {t:TypeId} {x:Operand} {k off:Nat} {fz:Bool} {cs:List LV} {p:PV} (ho:o.op=.load t x) (hs:zX P t=some 1) (hag:zy P t=some false) (hx:a.eval x=.pointer (some ⟨C.ρ k,off,none⟩)) (hk:look k=some (.box cs fz)) (hp:cs[off]?=some (.p p)) :
  ∃ v,(execOp a.eval o).run P w=.ok (.value v) w/\Rep w C.B v p:=by
 have hl:=(List.getElem?_eq_some_iff.1 hp).1;obtain ⟨v2,e2,e3,_⟩:=zjj h (t:=t) (sz:=1) (off:=off) (ag:=false) hs hag hk (by omega) (λ_=>rfl)
 refine ⟨v2,zdA ho ?_,?_⟩
 .rw [hx];simpa [Instr.loadAt,Instr.sureAddr] using e2
 .simp only [hp,Option.getD_some,Bool.false_eq_true,if_false] at e3
  exact ze e3
theorem ydP (h:RelC X C g look tr stop a w) {x y:Operand} {tS e:TypeId} {k n:Nat} {cs:List LV} {L:List PV} (ho:o.op=.call { callee:=.builtin .copy,args:=#[x,y],argTypes:=#[tS,tS] }) (hS:P.underlying tS=some (.slice e)) (he:zX P e=some 1)
  (hx:a.eval x=.slice (some ⟨C.ρ k,0,none⟩) n n) (hk:look k=some (.box cs false)) (hn:cs.length=n) (hy:Rep w C.B (a.eval y) (.sl 1 L)) (hL:∀ p ∈ L,p.cells=[p]/\p.one=true) :
  ∃ v w',(execOp a.eval o).run P w=.ok (.value v) w'/\RelC X C g (upd look k (some (.box (updL cs 0 ((L.take n).map .p)) false))) tr stop a w':=by
 obtain ⟨arr,ty,hg,hr⟩:=zfq h hk;have hlen:=hr.1;simp at hlen;obtain ⟨base,cap,hyv,hne,hm⟩:=zcb (q:=.p (.sl 1 L)) (pre:=True) (xs:=L) (sz:=1) (rd:=[]) h (.p hy) rfl trivial;have hsize:(sizeOf e).run P w=.ok 1 w:=zQ he;have hop:∀ {v':Value} {w':World},(Builtin.copy_ #[tS,tS] o.type #[.slice (some ⟨C.ρ k,0,none⟩) n n,.slice base L.length cap]).run P w=.ok v' w'->(execOp a.eval o).run P w=.ok (.value v') w':=fun {v' w'} hr=>by
  unfold execOp;simp only [ho,resolve,invoke,builtin,Sem.run_bind,Sem.run_pure,Result.andThen_ok,List.map_toArray,List.map_cons,List.map_nil,hx,hyv,hr]
 have main:∃ ws:List Value,ws.length=min L.length n/\Reps w C.B ws (L.take n)/\(∀ u ∈ ws,u.oneCell'=true)/\(Builtin.copy_ #[tS,tS] o.type #[.slice (some ⟨C.ρ k,0,none⟩) n n,.slice base L.length cap]).run P w=.ok (goInt (min L.length n:Nat)) (w.setRow (C.ρ k) (ws++arr.toList.drop (min L.length n)).toArray):=by
  by_cases hz:min L.length n=0
  .refine ⟨[],by simp [hz],?_,by simp,?_⟩
   .have:L.take n=[]:=List.eq_nil_of_length_eq_zero (by rw [List.length_take];omega)
    rw [this];exact .nil
   .have hl:∀ (x:Addr),(loadCells x 0).run P w=.ok #[] w:=λx=>by simpa using run_loadCells_list (P:=P) w x [] (by simp)
    have hz':Nat.min L.length n=0:=hz;have hsr:w.setRow (C.ρ k) (arr.toList.drop 0).toArray=w:=by simpa using setRow_self w (C.ρ k) arr ty (0,0) hg
    rw [hz];cases base<;>simp [Builtin.copy_,run_underlying hS,Builtin.lenOf,Builtin.firstCells,hsize,hz',hl,storeCells,setRow_self w (C.ρ k) arr ty (0,0) hg]
  .have hys:L≠[]:=λe=>by subst e;simp at hz
   obtain ⟨ad,us,rfl,hl,hcell,hus,_⟩:=hne hys;have hfl:L.flatMap PV.cells=L:=by
    have:∀ l:List PV,(∀ p ∈ l,p.cells=[p])->l.flatMap PV.cells=l:=by
     intro l
     induction l with
     | nil=>intro _;rfl
     | cons p l ih=>intro q;rw [List.flatMap_cons,q p (by simp),ih λx hx=>q x (by simp [hx])];rfl
    exact this L λp hp=>(hL p hp).1
   rw [hfl] at hus;rw [Nat.mul_one] at hl;have hul:us.length=L.length:=hl;have hrep:Reps w C.B (us.take n) (L.take n):=⟨by simp [hul],λj u p hu hp=>by
    rw [List.getElem?_take] at hu hp
    split at hu
    .rename_i q;rw [if_pos q] at hp;exact hus.2 j u p hu hp
    .cases hu⟩
   have hone:∀ u ∈ us.take n,u.oneCell'=true:=λu hu=>by
    obtain ⟨j,hj⟩:=List.mem_iff_getElem?.1 (List.mem_of_mem_take hu);have hjl:=(List.getElem?_eq_some_iff.1 hj).1;have hp:=List.getElem?_eq_getElem (l:=L) (i:=j) (by omega)
    exact znp (hus.2 j u _ hj hp) (hL _ (List.getElem_mem _)).2
   have htl:(us.take n).length=min L.length n:=by rw [List.length_take];omega
   refine ⟨us.take n,htl,hrep,hone,?_⟩;have e1:us.take (min L.length n)=us.take n:=by
    by_cases q:L.length<=n
    .rw [Nat.min_eq_left q,List.take_of_length_le (by omega),List.take_of_length_le (by omega)]
    .rw [Nat.min_eq_right (by omega)]
   have hload:(loadCells ad (Nat.min L.length n)).run P w=.ok (us.take n).toArray w:=by
    have:=run_loadCells_list (P:=P) w ad (us.take n) (λj u hu=>by
     rw [List.getElem?_take] at hu
     split at hu
     .exact hcell j u hu
     .cases hu)
    rw [htl] at this;exact this
   have hst:=run_storeCells_at (P:=P) (C.ρ k) 0 ty (us.take n) 0 arr w hg (by rw [htl];simp;omega) hone
   simp only [Nat.add_zero,Nat.zero_add,List.take_zero,List.nil_append,htl] at hst;have hst':(storeCells ⟨C.ρ k,0,none⟩ (us.take n)).run P w=.ok () (w.setRow (C.ρ k) (us.take n++arr.toList.drop (min L.length n)).toArray):=hst;simp [Builtin.copy_,run_underlying hS,Builtin.lenOf,Builtin.firstCells,hsize,hload,hst']
 obtain ⟨ws,hwl,hws,hone,hrun⟩:=main;refine ⟨_,_,hop hrun,?_⟩;have hgr:=zbG w (C.ρ k) (ws++arr.toList.drop (min L.length n)).toArray (blk C k (.box cs false)) rfl;have hq:RepsL w C look ws ((L.take n).map .p):=⟨by rw [hws.1];simp,λj u q hu hq=>by
  rw [List.getElem?_map] at hq;obtain ⟨p,hp,rfl⟩:=Option.map_eq_some_iff.1 hq;exact ⟨.p (hws.2 j u p hu hp),.p p⟩⟩
 have hcell:=zlg hr hq (off:=0) (by simp;omega)
 have hf:=zdc (o':=.box (updL cs 0 ((L.take n).map .p)) false) hk trivial;have hrow:∀ k' e sz xs fz,look k'=some (.row e sz xs fz)->∃ xs' fz',upd look k (some (.box (updL cs 0 ((L.take n).map .p)) false)) k'=some (.row e sz xs' fz')/\(xs'.length=xs.length->C.cur k'=C.cur k')/\xs.length<=xs'.length:=λk' e sz xs fz hk'=>
  ⟨xs,fz,by rw [zt _ _ (by rintro rfl;rw [hk] at hk';cases hk')];exact hk',λ_=>rfl,Nat.le_refl _⟩
 have hrd:∀ b,C.B b->(w.setRow (C.ρ k) (ws++arr.toList.drop (min L.length n)).toArray).heap[b]?=w.heap[b]?:=λb hb=>
  hgr.block b (h.blt b hb) (λe=>(h.sep k _ b hk e.symm).2.2.1 rfl hb)
 have hcell':=ziL (C':=C) (λ_ h=>h) rfl hrd (λ_ _ _=>rfl) hrow hf hcell
 refine h.modify hk trivial rfl rfl rfl rfl rfl rfl rfl rfl (λ_ _=>rfl) (λ_ _ _ _ _ _ e=>by cases e) hgr ?_ ?_ (λb hb=>.inl hb)
 .refine ⟨_,ty,setRow_heap w _ arr _ ty _ hg,?_,λj v q' hv' hq'=>(hcell'.2 j v q' ?_ hq').1⟩
  .have:=hcell'.1
   simp [hwl] at this ⊢
   omega
  .simpa [hwl] using hv'
 .intro j q' hq'
  have:=hcell'.1;have hj:=(List.getElem?_eq_some_iff.1 hq').1;exact (hcell'.2 j _ q' (List.getElem?_eq_getElem (by omega)) hq').2
theorem yex {B:Nat->Prop} {u v:Value} {p:PV} (e:u=v) (h:Rep w B v p):Rep w B u p:=e ▸ h
theorem ybN {G:Cfg} (hm:G.P.follows .mixedOrders=true) {s:St} {Q:zN} {id d0 d1 d2 d3 tb tq k j fi off n sf:Nat} {tA tF tS e ty0 ty1 ty2 ty3:TypeId} {p0 p1 p2 p3:String} {fs:Array Field} {fl:Field} {cs cs5:List LV} {fz:Bool} {L:List PV}
  (hA:G.P.underlying tA=some (.array n e)) (he:zX G.P e=some 1) (hS:G.P.underlying tS=some (.slice e)) (hs1:zX G.P tS=some 1) (hs2:zy G.P tS=some false)
  (ht:G.P.underlying tF=some (.struct fs)) (hf:fs[fi]?=some fl) (hfs:zX G.P fl.type=some sf) (h0:sf≠0)
  (hgb:s.get tb=.lp k 0) (hgq:s.get tq=.lp j off) (hk:s.look k=some (.box cs false)) (hj:s.look j=some (.box cs5 fz)) (hjk:j≠k) (hn:cs.length=n) (hp:cs5[off+fl.offset]?=some (.p (.sl 1 L))) (hL:∀ p ∈ L,p.cells=[p]/\p.one=true)
  (hN:d0 < G.X.N/\d1 < G.X.N/\d2 < G.X.N/\d3 < G.X.N) (htb:tb < GB/\tq < GB) (hd:d0≠d1/\d0≠d2/\d0≠d3/\d1≠d2/\d1≠d3/\d2≠d3/\tb≠d0/\tb≠d1/\tb≠d2/\tb≠d3/\tq≠d0/\tq≠d1/\tq≠d2/\tq≠d3)
  (hany:s.get d0=.any/\s.get d1=.any/\s.get d2=.any/\s.get d3=.any)
  (hQ:Q .normal (s.wr k (.box (updL cs 0 ((L.take n).map .p)) false))) :
  ya5 G (.region id #[⟨some d0,.slice tA (.tmp tb) none none none,ty0,p0,#[],none⟩,⟨some d1,.fieldAddr tF (.tmp tq) fi,ty1,p1,#[],none⟩,⟨some d2,.load tS (.tmp d1),ty2,p2,#[⟨1,.data⟩],none⟩,⟨some d3,.call { callee:=.builtin .copy,args:=#[.tmp d0,.tmp d2],argTypes:=#[tS,tS] },ty3,p3,#[⟨0,.data⟩,⟨2,.data⟩],none⟩] true) s Q:=by
 intro hG C a w hr;have hb:Below w.heap.size w { w with drawn:=w.drawn+1 }:=⟨rfl,rfl,rfl,Nat.le_refl _,λ_ _=>rfl⟩
 have hr1:=hr.grow hb C.B (λ_ h=>h) (λb hb=>.inl hb)
 refine wpIn_region_any hm ?_;generalize hops:(#[⟨some d0,.slice tA (.tmp tb) none none none,ty0,p0,#[],none⟩,⟨some d1,.fieldAddr tF (.tmp tq) fi,ty1,p1,#[],none⟩,⟨some d2,.load tS (.tmp d1),ty2,p2,#[⟨1,.data⟩],none⟩,⟨some d3,.call { callee:=.builtin .copy,args:=#[.tmp d0,.tmp d2],argTypes:=#[tS,tS] },ty3,p3,#[⟨0,.data⟩,⟨2,.data⟩],none⟩]:Array Oper)=ops;have st:∀ (i:Nat) (o:Oper),ops[i]?=some o->o.guard=none->(∀ c,o.op≠.defer c)->∀ (K:Act->World->Prop) (a:Act) (w:World) (v:Value) (w':World),(execOp a.eval o).run G.P w=.ok (.value v) w'->K (a.put o.dst v) w'->wpOpIn (zar G.ro) 0 G.P ops (QQ G Q) i K a w:=λi o hi hg hnd K a w v w' h1 h2=>by
  unfold wpOpIn;rw [hi];have hw:Region.wanted o (yielded ops a.tmps)=true:=by simp [Region.wanted,hg]
  simp only;rw [if_pos hw];exact zdJ hnd (.inl h1) h2
 let Inv (m0 m1 m2:Bool) (a:Act) (w:World):Prop:=RelC G.X C s.get s.look s.tr s.stop a w/\(m0=true->a.eval (.tmp d0)=.slice (some ⟨C.ρ k,0,none⟩) n n)/\(m1=true->a.eval (.tmp d1)=.pointer (some ⟨C.ρ j,off+fl.offset,none⟩))/\(m2=true->Rep w C.B (a.eval (.tmp d2)) (.sl 1 L))
 obtain ⟨n0,n1,n2,n3⟩:=hN;obtain ⟨q1,q2,q3,q4,q5,q6,q7,q8,q9,q10,q11,q12,q13,q14⟩:=hd;obtain ⟨y0,y1,y2,y3⟩:=hany;have s0:∀ (m1 m2:Bool) (a:Act) (w:World) (K:Act->World->Prop),Inv false m1 m2 a w->(∀ a',Inv true m1 m2 a' w->K a' w)->wpOpIn (zar G.ro) 0 G.P ops (QQ G Q) 0 K a w:=λm1 m2 a w K hI hK=>by
  obtain ⟨i1,i2,i3,i4⟩:=hI;refine st 0 _ (by rw [<-hops];rfl) rfl (by intro c;simp) K a w _ w (ydM rfl hA he (ev_lp i1 htb.1 hgb)) (hK _ ⟨yaz i1 n0 y0 _,λ_=>yae i1 n0,λq=>?_,λq=>?_⟩)
  .exact (yk (Ne.symm q1)).trans (i3 q)
  .exact yex (yk (Ne.symm q2)) (i4 q)
 have s1:∀ (m0 m2:Bool) (a:Act) (w:World) (K:Act->World->Prop),Inv m0 false m2 a w->(∀ a',Inv m0 true m2 a' w->K a' w)->wpOpIn (zar G.ro) 0 G.P ops (QQ G Q) 1 K a w:=λm0 m2 a w K hI hK=>by
  obtain ⟨i1,i2,i3,i4⟩:=hI;refine st 1 _ (by rw [<-hops];rfl) rfl (by intro c;simp) K a w _ w (ydO rfl ht hf hfs h0 (ev_lp i1 htb.2 hgq)) (hK _ ⟨yaz i1 n1 y1 _,λq=>?_,λ_=>yae i1 n1,λq=>?_⟩)
  .exact (yk q1).trans (i2 q)
  .exact yex (yk (Ne.symm q4)) (i4 q)
 have s2:∀ (m0:Bool) (a:Act) (w:World) (K:Act->World->Prop),Inv m0 true false a w->(∀ a',Inv m0 true true a' w->K a' w)->wpOpIn (zar G.ro) 0 G.P ops (QQ G Q) 2 K a w:=λm0 a w K hI hK=>by
  obtain ⟨i1,i2,i3,i4⟩:=hI;obtain ⟨v,e1,e2⟩:=ydN (P:=G.P) (o:=⟨some d2,.load tS (.tmp d1),ty2,p2,#[⟨1,.data⟩],none⟩) (x:=.tmp d1) i1 rfl hs1 hs2 (i3 rfl) hj hp;refine st 2 _ (by rw [<-hops];rfl) rfl (by intro c;simp) K a w _ w e1 (hK _ ⟨yaz i1 n2 y2 _,λq=>?_,λq=>?_,λ_=>yex (yae i1 n2) e2⟩)
  .exact (yk q2).trans (i2 q)
  .exact (yk q4).trans (i3 q)
 have s3:∀ (a:Act) (w:World) (K:Act->World->Prop),Inv true true true a w->(∀ a' w',RelC G.X C s.get (upd s.look k (some (.box (updL cs 0 ((L.take n).map .p)) false))) s.tr s.stop a' w'->K a' w')->wpOpIn (zar G.ro) 0 G.P ops (QQ G Q) 3 K a w:=λa w K hI hK=>by
  obtain ⟨i1,i2,i3,i4⟩:=hI;obtain ⟨v,w',e1,e2⟩:=ydP (P:=G.P) (o:=⟨some d3,.call { callee:=.builtin .copy,args:=#[.tmp d0,.tmp d2],argTypes:=#[tS,tS] },ty3,p3,#[⟨0,.data⟩,⟨2,.data⟩],none⟩) (x:=.tmp d0) (y:=.tmp d2) i1 rfl hS he (i2 rfl) hk hn (i4 rfl) hL;exact st 3 _ (by rw [<-hops];rfl) rfl (by intro c;simp) K a w _ w' e1 (hK _ _ (yaz e2 n3 y3 _))
 have fin:∀ (listed:Array Bool) (a:Act) (w:World),Region.ready .any ops listed=[3]->Region.ready .any ops (listed.setIfInBounds 3 true)=[]->Inv true true true a w->wpAnyIn (zar G.ro) 0 G.P .any ops (QQ G Q) 1 listed a w:=λlisted a w r1 r2 hI=>by
  refine ⟨λe=>(by rw [r1] at e;cases e),λi hi=>?_⟩
  rw [r1] at hi;have hi:=List.mem_singleton.1 hi;subst hi;refine s3 a w _ hI λa' w' h'=>⟨r2,⟨s.wr k (.box (updL cs 0 ((L.take n).map .p)) false),C,?_,hQ⟩⟩
  rw [show (s.wr k (.box (updL cs 0 ((L.take n).map .p)) false)).look=upd s.look k (some (.box (updL cs 0 ((L.take n).map .p)) false)) from zbn _ _ _]
  exact h'
 have hI0:Inv false false false a { w with drawn:=w.drawn+1 }:=⟨hr1,by simp,by simp,by simp⟩
 have hsz:ops.size=4:=by rw [<-hops];rfl
 rw [hsz];refine ⟨λe=>?_,λi hi=>?_⟩
 .have:Region.ready .any ops (Array.replicate 4 false)=[0,1]:=by rw [<-hops];simp [Region.ready,Region.binds,List.range_succ]
  rw [this] at e;cases e
 .have r0:Region.ready .any ops (Array.replicate 4 false)=[0,1]:=by rw [<-hops];simp [Region.ready,Region.binds,List.range_succ]
  rw [r0] at hi
  rcases List.mem_cons.1 hi with rfl|hi
  .refine s0 _ _ _ _ _ hI0 λa1 h1=>?_
   have r1:Region.ready .any ops ((Array.replicate 4 false).setIfInBounds 0 true)=[1]:=by rw [<-hops];simp [Region.ready,Region.binds,List.range_succ]
   refine ⟨λe=>(by rw [r1] at e;cases e),λi hi=>?_⟩
   rw [r1] at hi;have hi:=List.mem_singleton.1 hi;subst hi;refine s1 _ _ _ _ _ h1 λa2 h2=>?_
   have r2:Region.ready .any ops (((Array.replicate 4 false).setIfInBounds 0 true).setIfInBounds 1 true)=[2]:=by rw [<-hops];simp [Region.ready,Region.binds,List.range_succ]
   refine ⟨λe=>(by rw [r2] at e;cases e),λi hi=>?_⟩
   rw [r2] at hi;have hi:=List.mem_singleton.1 hi;subst hi;exact s2 _ _ _ _ h2 λa3 h3=>fin _ a3 _ (by rw [<-hops];simp [Region.ready,Region.binds,List.range_succ]) (by rw [<-hops];simp [Region.ready,Region.binds,List.range_succ]) h3
  .have hi:=List.mem_singleton.1 hi;subst hi
   refine s1 _ _ _ _ _ hI0 λa1 h1=>?_
   have r1:Region.ready .any ops ((Array.replicate 4 false).setIfInBounds 1 true)=[0,2]:=by rw [<-hops];simp [Region.ready,Region.binds,List.range_succ]
   refine ⟨λe=>(by rw [r1] at e;cases e),λi hi=>?_⟩
   rw [r1] at hi
   rcases List.mem_cons.1 hi with rfl|hi
   .refine s0 _ _ _ _ _ h1 λa2 h2=>?_
    have r2:Region.ready .any ops (((Array.replicate 4 false).setIfInBounds 1 true).setIfInBounds 0 true)=[2]:=by rw [<-hops];simp [Region.ready,Region.binds,List.range_succ]
    refine ⟨λe=>(by rw [r2] at e;cases e),λi hi=>?_⟩
    rw [r2] at hi;have hi:=List.mem_singleton.1 hi;subst hi;exact s2 _ _ _ _ h2 λa3 h3=>fin _ a3 _ (by rw [<-hops];simp [Region.ready,Region.binds,List.range_succ]) (by rw [<-hops];simp [Region.ready,Region.binds,List.range_succ]) h3
   .have hi:=List.mem_singleton.1 hi;subst hi
    refine s2 _ _ _ _ h1 λa2 h2=>?_
    have r2:Region.ready .any ops (((Array.replicate 4 false).setIfInBounds 1 true).setIfInBounds 2 true)=[0]:=by rw [<-hops];simp [Region.ready,Region.binds,List.range_succ]
    refine ⟨λe=>(by rw [r2] at e;cases e),λi hi=>?_⟩
    rw [r2] at hi;have hi:=List.mem_singleton.1 hi;subst hi;exact s0 _ _ _ _ _ h2 λa3 h3=>fin _ a3 _ (by rw [<-hops];simp [Region.ready,Region.binds,List.range_succ]) (by rw [<-hops];simp [Region.ready,Region.binds,List.range_succ]) h3
end
theorem yaQ {P : Program} {f : FuncId} {fn : Func} {body : Code} {rs : List RV} {args : List PV} {r : PV} (hf : P.funcs[f]? = some fn) (hb : fn.body = some body)
    (hrs : zaI P fn.results.toList = some rs) (hn : args.length <= fn.ntmps) (hgb : fn.ntmps <= GB) {w : World} {B : Nat -> Prop} {vs : List Value} (hB : ∀ b, B b -> b < w.heap.size) (hvs : Reps w B vs args)
    (hrun : ya5 ⟨P, zeT w B fn.ntmps, none, []⟩ body (argSt args) (retQ rs r)) : Calls P f vs.toArray w λe w' => ∃ u, e = .returned u /\ Below w.heap.size w w' /\ Rep w' (λb => B b \/ (w.heap.size <= b /\ b < w'.heap.size)) u r := by
  refine callsIn_wide.1 (callsIn_of_wp_marks (F := Fence.wide) (n := 0) hf hb trivial ?_ rfl)
  let X := zeT w B fn.ntmps
  have hX : X.Triv := λt D o w => ⟨trivial, trivial⟩
  have hlen := hvs.1
  have hN : (vs.toArray ++ Array.replicate (fn.ntmps - vs.toArray.size) undef).size = fn.ntmps := by simp; omega
  have hget : ∀ t, (argSt args).get t = match args[t]? with | some v => .p v | none => .any := λt => by
    have h := zfw args 0 t
    rw [if_pos (Nat.zero_le _), Nat.sub_zero] at h
    refine h.trans ?_
    cases args[t]? <;> rfl
  have h0 : RelC X { B := B, ρ := λ_ => 0, cur := λ_ => undef, y := 0, n := 0, dep := λ_ => False, own := λ_ => False } (argSt args).get (argSt args).look [] false { tmps := vs.toArray ++ Array.replicate (fn.ntmps - vs.toArray.size) undef, defers := [] } w :=
    { kx := KeepX.refl _ _
      yy := rfl
      b0 := λb h => h
      blt := hB
      bold := λb h _ => h
      borg := λb h => .inl h
      no0 := Nat.le_refl _
      tsz := hN
      ngb := hgb
      env := λt => by
        rw [hget]
        split
        . rename_i v hv
          obtain ⟨u, hu, hr⟩ := hvs.get hv
          rw [zaO (Nat.lt_of_lt_of_le (Nat.lt_of_lt_of_le (List.getElem?_eq_some_iff.1 hv).1 hn) hgb)]
          have ht : t < vs.length := (List.getElem?_eq_some_iff.1 hu).1
          have : (vs.toArray ++ Array.replicate (fn.ntmps - vs.toArray.size) undef).getD t undef = u := by
            rw [Array.getD_eq_getD_getElem?, Array.getElem?_append_left (by simpa using ht)]
            simp [hu]
          rw [this]
          exact .p hr
        . exact .any _
      envs := λt => by rw [hget]; split <;> first | exact .p _ | exact .any
      obj := λk o hk => by simp [argSt, St.look, zk] at hk
      objs := λk o hk => by simp [argSt, St.look, zk] at hk
      sep := λk o b hk => by simp [argSt, St.look, zk] at hk
      dis := λk k' o o' b _ hk => by simp [argSt, St.look, zk] at hk
      marks := λp hp => by cases hp
      nle := Nat.zero_le _
      dn := λ_ h => h.elim
      nn := λk o b hk => by simp [argSt, St.look, zk] at hk
      ow := λ_ h => h.elim
      oold := λ_ h => h.elim
      dold := λ_ h => h.elim
      jj := .inl hX }
  refine wpIn_mono (hrun ⟨⟨λb h => h.elim, λb h => h.elim⟩, .inl rfl, λl h => by cases h⟩ _ _ _ h0) ?_
  rintro e a' w' ⟨s', C', hr', hq⟩
  have key : RetOk rs r s' -> LeavesInM Fence.wide 0 P fn a'.tmps (λe w' => ∃ u, e = .returned u /\ Below w.heap.size w w' /\ Rep w' (λb => B b \/ (w.heap.size <= b /\ b < w'.heap.size)) u r) a'.defers .returning w' := λhq => by
    refine zdt (ro := none) a'.defers a' w' rfl hr' λw2 h2 => ?_
    unfold RetOk at hq
    split at hq
    . rename_i pre lvs hl
      split at hq
      . rename_i pre2 ps ks ht
        obtain ⟨hp, hp2, hw⟩ := hq
        obtain ⟨us, hrun, hus⟩ := zdS (fn := fn) hrs h2 hl hp
        refine ⟨_, hrun, _, rfl, (h2.kx.mono (M' := λ_ => False) λk _ hk => hk.elim id id).below, ?_⟩
        have hreps := zaZ h2 hus ht hp2
        refine hw.rep ?_
        have hmono : ∀ b, (C'.B b \/ zbX C' s'.look ks b) -> (B b \/ (w.heap.size <= b /\ b < w2.heap.size)) := λb hb => by
          rcases hb with hb | ⟨k, hk, o, ho, hbk⟩
          . by_cases hlt : b < w.heap.size
            . exact .inl (h2.bold b hb hlt)
            . exact .inr ⟨by omega, h2.blt b hb⟩
          . obtain ⟨e1, e2, _, e4⟩ := h2.sep k o b ho hbk
            cases hf : o.frozen with
            | false => exact .inr ⟨(e1 hf).resolve_right (λh => h), e2⟩
            | true =>
              by_cases hlt : b < w.heap.size
              . exact .inl (h2.bold b (e4 hf) hlt)
              . exact .inr ⟨by omega, e2⟩
        have hreps2 := hreps.mono hmono (λ_ _ => rfl)
        match us, ps, hreps2 with
        | [], [], _ => exact .tup rfl (λj v p hv => by simp at hv)
        | [u], [p], h => exact h.2 0 u p rfl rfl
        | u :: v :: us, p :: q :: ps, h =>
          have : (u :: v :: us).toArray.size ≠ 1 := by simp
          rw [dif_neg this]
          exact .tup (by simpa using h.1) (λj x y hx hy => h.2 j x y (by simpa using hx) hy)
        | [], _ :: _, h => exact absurd h.1 (by simp)
        | _ :: _, [], h => exact absurd h.1 (by simp)
        | [_], _ :: _ :: _, h => exact absurd h.1 (by simp)
        | _ :: _ :: _, [_], h => exact absurd h.1 (by simp)
      . exact hq.elim
    . exact hq.elim
  cases e with
  | normal => exact key hq
  | ret => exact key hq
  | exit id => exact hq.elim
  | goto l => exact hq.elim
  | panic c => exact hq.elim
  | outgrown => exact hq.elim
theorem ydb {P : Program} {f : FuncId} {fn : Func} {body : Code} {rs : List RV} {args : List PV} {r : PV} (hf : P.funcs[f]? = some fn) (hname : (fn.name == "runtime.NumGoroutine") = false) (hb : fn.body = some body)
  (hrs:zaI P fn.results.toList=some rs) (hn:args.length<=fn.ntmps) (hgb:fn.ntmps<=GB) (hrun:wfs args->∀ X:Fx,X.N=fn.ntmps->ya5 ⟨P,X,none,[]⟩ body (argSt args) (retQ rs r)):Pure P f args r:=
 zt3 ⟨fn,body,hf,hname,hb⟩ λhw=>⟨⟨fn,body,hf,hname,hb⟩,λw B vs hB hvs=>yaQ hf hb hrs hn hgb hB hvs (hrun hw (zeT w B fn.ntmps) rfl)⟩
def yb6 (P:Program) (f:FuncId) (args:List PV) (S:PV->Prop):Prop:=
 zbd P f/\∀ (w:World) (B:Nat->Prop) (vs:List Value),(∀ b,B b->b < w.heap.size)->Reps w B vs args ->
  Calls P f vs.toArray w λe w'=>∃ u r,S r/\e=.returned u/\Below w.heap.size w w'/\Rep w' (λb=>B b\/(w.heap.size<=b/\b < w'.heap.size)) u r
def retSQ (rs:List RV) (S:PV->Prop):zN
 | .normal,s=>∃ r,S r/\RetOk rs r s
 | .ret,s=>∃ r,S r/\RetOk rs r s
 | .exit _,_=>False
theorem ydd {P : Program} {f : FuncId} {fn : Func} {body : Code} {rs : List RV} {args : List PV} {S : PV -> Prop} (hf : P.funcs[f]? = some fn) (hb : fn.body = some body)
    (hrs : zaI P fn.results.toList = some rs) (hn : args.length <= fn.ntmps) (hgb : fn.ntmps <= GB) {w : World} {B : Nat -> Prop} {vs : List Value} (hB : ∀ b, B b -> b < w.heap.size) (hvs : Reps w B vs args)
    (hrun : ya5 ⟨P, zeT w B fn.ntmps, none, []⟩ body (argSt args) (retSQ rs S)) : Calls P f vs.toArray w λe w' => ∃ u r, S r /\ e = .returned u /\ Below w.heap.size w w' /\ Rep w' (λb => B b \/ (w.heap.size <= b /\ b < w'.heap.size)) u r := by
  refine callsIn_wide.1 (callsIn_of_wp_marks (F := Fence.wide) (n := 0) hf hb trivial ?_ rfl)
  let X := zeT w B fn.ntmps
  have hX : X.Triv := λt D o w => ⟨trivial, trivial⟩
  have hlen := hvs.1
  have hN : (vs.toArray ++ Array.replicate (fn.ntmps - vs.toArray.size) undef).size = fn.ntmps := by simp; omega
  have hget : ∀ t, (argSt args).get t = match args[t]? with | some v => .p v | none => .any := λt => by
    have h := zfw args 0 t
    rw [if_pos (Nat.zero_le _), Nat.sub_zero] at h
    refine h.trans ?_
    cases args[t]? <;> rfl
  have h0 : RelC X { B := B, ρ := λ_ => 0, cur := λ_ => undef, y := 0, n := 0, dep := λ_ => False, own := λ_ => False } (argSt args).get (argSt args).look [] false { tmps := vs.toArray ++ Array.replicate (fn.ntmps - vs.toArray.size) undef, defers := [] } w :=
    { kx := KeepX.refl _ _
      yy := rfl
      b0 := λb h => h
      blt := hB
      bold := λb h _ => h
      borg := λb h => .inl h
      no0 := Nat.le_refl _
      tsz := hN
      ngb := hgb
      env := λt => by
        rw [hget]
        split
        . rename_i v hv
          obtain ⟨u, hu, hr⟩ := hvs.get hv
          rw [zaO (Nat.lt_of_lt_of_le (Nat.lt_of_lt_of_le (List.getElem?_eq_some_iff.1 hv).1 hn) hgb)]
          have ht : t < vs.length := (List.getElem?_eq_some_iff.1 hu).1
          have : (vs.toArray ++ Array.replicate (fn.ntmps - vs.toArray.size) undef).getD t undef = u := by
            rw [Array.getD_eq_getD_getElem?, Array.getElem?_append_left (by simpa using ht)]
            simp [hu]
          rw [this]
          exact .p hr
        . exact .any _
      envs := λt => by rw [hget]; split <;> first | exact .p _ | exact .any
      obj := λk o hk => by simp [argSt, St.look, zk] at hk
      objs := λk o hk => by simp [argSt, St.look, zk] at hk
      sep := λk o b hk => by simp [argSt, St.look, zk] at hk
      dis := λk k' o o' b _ hk => by simp [argSt, St.look, zk] at hk
      marks := λp hp => by cases hp
      nle := Nat.zero_le _
      dn := λ_ h => h.elim
      nn := λk o b hk => by simp [argSt, St.look, zk] at hk
      ow := λ_ h => h.elim
      oold := λ_ h => h.elim
      dold := λ_ h => h.elim
      jj := .inl hX }
  refine wpIn_mono (hrun ⟨⟨λb h => h.elim, λb h => h.elim⟩, .inl rfl, λl h => by cases h⟩ _ _ _ h0) ?_
  rintro e a' w' ⟨s', C', hr', hq⟩
  have key : ∀ r, S r -> RetOk rs r s' -> LeavesInM Fence.wide 0 P fn a'.tmps (λe w' => ∃ u r, S r /\ e = .returned u /\ Below w.heap.size w w' /\ Rep w' (λb => B b \/ (w.heap.size <= b /\ b < w'.heap.size)) u r) a'.defers .returning w' := λr hS hq => by
    refine zdt (ro := none) a'.defers a' w' rfl hr' λw2 h2 => ?_
    unfold RetOk at hq
    split at hq
    . rename_i pre lvs hl
      split at hq
      . rename_i pre2 ps ks ht
        obtain ⟨hp, hp2, hw⟩ := hq
        obtain ⟨us, hrun, hus⟩ := zdS (fn := fn) hrs h2 hl hp
        refine ⟨_, hrun, _, r, hS, rfl, (h2.kx.mono (M' := λ_ => False) λk _ hk => hk.elim id id).below, ?_⟩
        have hreps := zaZ h2 hus ht hp2
        refine hw.rep ?_
        have hmono : ∀ b, (C'.B b \/ zbX C' s'.look ks b) -> (B b \/ (w.heap.size <= b /\ b < w2.heap.size)) := λb hb => by
          rcases hb with hb | ⟨k, hk, o, ho, hbk⟩
          . by_cases hlt : b < w.heap.size
            . exact .inl (h2.bold b hb hlt)
            . exact .inr ⟨by omega, h2.blt b hb⟩
          . obtain ⟨e1, e2, _, e4⟩ := h2.sep k o b ho hbk
            cases hf : o.frozen with
            | false => exact .inr ⟨(e1 hf).resolve_right (λh => h), e2⟩
            | true =>
              by_cases hlt : b < w.heap.size
              . exact .inl (h2.bold b (e4 hf) hlt)
              . exact .inr ⟨by omega, e2⟩
        have hreps2 := hreps.mono hmono (λ_ _ => rfl)
        match us, ps, hreps2 with
        | [], [], _ => exact .tup rfl (λj v p hv => by simp at hv)
        | [u], [p], h => exact h.2 0 u p rfl rfl
        | u :: v :: us, p :: q :: ps, h =>
          have : (u :: v :: us).toArray.size ≠ 1 := by simp
          rw [dif_neg this]
          exact .tup (by simpa using h.1) (λj x y hx hy => h.2 j x y (by simpa using hx) hy)
        | [], _ :: _, h => exact absurd h.1 (by simp)
        | _ :: _, [], h => exact absurd h.1 (by simp)
        | [_], _ :: _ :: _, h => exact absurd h.1 (by simp)
        | _ :: _ :: _, [_], h => exact absurd h.1 (by simp)
      . exact hq.elim
    . exact hq.elim
  cases e with
  | normal => obtain ⟨r, h1, h2⟩ := hq; exact key r h1 h2
  | ret => obtain ⟨r, h1, h2⟩ := hq; exact key r h1 h2
  | exit id => exact hq.elim
  | goto l => exact hq.elim
  | panic c => exact hq.elim
  | outgrown => exact hq.elim
theorem ydc {P:Program} {f:FuncId} {c:AC} {rs:List RV} {n:Nat} (h:zck P f=some (c,rs,n)) {args:List PV} {S:PV->Prop} (hn:args.length<=n) (hrun:∀ X:Fx,X.N=n->Run ⟨P,X,none,[]⟩ c (argSt args) (retSQ rs S)):yb6 P f args S:=by
 unfold zck at h
 split at h
 .rename_i fn hf
  split at h
  .cases h
  .rename_i hname
   split at h
   .rename_i b hb
    split at h
    .rename_i c' rs' hc hrs
     split at h
     case isFalse=>cases h
     rename_i hgb;injection h with h;injection h with e1 h;injection h with e2 e3;subst e1;subst e2;subst e3;exact ⟨⟨fn,b,hf,by simpa using hname,hb⟩,λw B vs hB hvs=>ydd hf hb hrs hn hgb hB hvs (ycj hc (hrun (zeT w B fn.ntmps) rfl))⟩
    .cases h
   .cases h
 .cases h
theorem tN:(((Int.toNat 0=0/\Int.toNat 1=1)/\(Int.toNat 2=2/\Int.toNat 3=3))/\((Int.toNat 4=4/\Int.toNat 5=5)/\(Int.toNat 6=6/\Int.toNat 7=7))):=⟨⟨⟨rfl,rfl⟩,rfl,rfl⟩,⟨rfl,rfl⟩,rfl,rfl⟩
theorem al_fn (f:Fn) (a b r:List LV):zej (.fn f a b::r)=none:=rfl
theorem ybr (g:Nat) (bk:PV):Pure Tryz.prog 162 [.fn (.func g) [bk] []] (.agg [.i .i64 2,.i .i64 1,.fn (.func 163) [] [.ip (.fn (.func g) [bk] []) 0]]):=by
 refine zf (cF Tryz.func162 Tryz.f162.eq_1) (by simp) λhw X hX=>?_
 have qe:=aI qR (aI @tN @al_fn);repeat' first|refine gC ?_ ?_<;>intro hc<;>try contradiction|refine gG ?_|show AK _;intro K H|refine H _ _ ?_;clear H K|refine gJ ?_;try exact trivial|omega
 all_goals exact .refl _
theorem ybp (g:Nat) (bk:PV):Pure Tryz.prog 164 [.fn (.func g) [bk] []] (.agg [.i .i64 3,.i .i64 0,.fn (.func 165) [] [.ip (.fn (.func g) [bk] []) 0]]):=by
 refine zf (cF Tryz.func164 Tryz.f164.eq_1) (by simp) λhw X hX=>?_
 have qe:=aI qR (aI @tN @al_fn);repeat' first|refine gC ?_ ?_<;>intro hc<;>try contradiction|refine gG ?_|show AK _;intro K H|refine H _ _ ?_;clear H K|refine gJ ?_;try exact trivial|omega
 all_goals exact .refl _
abbrev yd:ByteArray:=bs [104,111,108,100]
abbrev ye:ByteArray:=bs [98,97,99,107]
abbrev yi:ByteArray:=bs [114,101,99,97,108,108]
abbrev yj:ByteArray:=bs [116,114,97,110,115,102,101,114]
abbrev yr:ByteArray:=bs [115,104,97,114,101]
abbrev yB:ByteArray:=bs [115,119,97,112]
abbrev yJ:ByteArray:=bs [114,105,110,103]
abbrev yW:ByteArray:=bs [108,101,110,100]
abbrev yal:ByteArray:=bs [114,101,116,105,109,101]
abbrev yaV:ByteArray:=bs [119,97,105,116]
abbrev ybX:ByteArray:=bs [115,101,114,118,101]
abbrev fnB (g:Nat) (b:PV):PV:=.ip (.fn (.func g) [b] []) 0
abbrev yb5 (b l:PV):Nat->PV
 | 0=>.fn (.func 166) [] [.ip b 0,.ip l 0]
 | 1=>.fn (.func 163) [] [fnB 77 b]
 | 2=>.fn (.func 163) [] [fnB 86 b]
 | 3=>.fn (.func 165) [] [fnB 168 b]
 | 4=>.fn (.func 165) [] [fnB 169 b]
 | 5=>.fn (.func 170) [] [.ip b 0]
 | 6=>.fn (.func 171) [] [.ip b 0]
 | 7=>.fn (.func 173) [] [.ip b 0]
 | 8=>.fn (.func 174) [] [.ip b 0,.ip l 0]
 | 9=>.fn (.func 176) [] [.ip b 0]
 | _=>.fn (.func 177) [] [.ip b 0,.ip l 0]
abbrev yb9 (b l:PV):List (PV × PV):=
 [(.s yd,.agg [.i .i64 5,.i .i64 7,yb5 b l 0]),(.s ye,.agg [.i .i64 2,.i .i64 1,yb5 b l 1]),(.s yi,.agg [.i .i64 2,.i .i64 1,yb5 b l 2]),(.s yj,.agg [.i .i64 3,.i .i64 0,yb5 b l 3]),
  (.s yr,.agg [.i .i64 3,.i .i64 0,yb5 b l 4]),(.s yB,.agg [.i .i64 2,.i .i64 0,yb5 b l 5]),(.s yJ,.agg [.i .i64 (-1),.i .i64 0,yb5 b l 6]),(.s yW,.agg [.i .i64 3,.i .i64 2,yb5 b l 7]),
  (.s yal,.agg [.i .i64 2,.i .i64 1,yb5 b l 8]),(.s yaV,.agg [.i .i64 5,.i .i64 8,yb5 b l 9]),(.s ybX,.agg [.i .i64 0,.i .i64 0,yb5 b l 10])]
theorem mp1 (v0 v:PV):mput (.s ye) v [(.s yd,v0)]=[(.s yd,v0),(.s ye,v)]:=rfl
theorem mp2 (v0 v1 v:PV):mput (.s yi) v [(.s yd,v0),(.s ye,v1)]=[(.s yd,v0),(.s ye,v1),(.s yi,v)]:=rfl
theorem mp3 (v0 v1 v2 v:PV):mput (.s yj) v [(.s yd,v0),(.s ye,v1),(.s yi,v2)]=[(.s yd,v0),(.s ye,v1),(.s yi,v2),(.s yj,v)]:=rfl
theorem mp4 (v0 v1 v2 v3 v:PV):mput (.s yr) v [(.s yd,v0),(.s ye,v1),(.s yi,v2),(.s yj,v3)]=[(.s yd,v0),(.s ye,v1),(.s yi,v2),(.s yj,v3),(.s yr,v)]:=rfl
theorem mp5 (v0 v1 v2 v3 v4 v:PV):mput (.s yB) v [(.s yd,v0),(.s ye,v1),(.s yi,v2),(.s yj,v3),(.s yr,v4)]=[(.s yd,v0),(.s ye,v1),(.s yi,v2),(.s yj,v3),(.s yr,v4),(.s yB,v)]:=rfl
theorem mp6 (v0 v1 v2 v3 v4 v5 v:PV):mput (.s yJ) v [(.s yd,v0),(.s ye,v1),(.s yi,v2),(.s yj,v3),(.s yr,v4),(.s yB,v5)]=[(.s yd,v0),(.s ye,v1),(.s yi,v2),(.s yj,v3),(.s yr,v4),(.s yB,v5),(.s yJ,v)]:=rfl
theorem mp7 (v0 v1 v2 v3 v4 v5 v6 v:PV):mput (.s yW) v [(.s yd,v0),(.s ye,v1),(.s yi,v2),(.s yj,v3),(.s yr,v4),(.s yB,v5),(.s yJ,v6)]=[(.s yd,v0),(.s ye,v1),(.s yi,v2),(.s yj,v3),(.s yr,v4),(.s yB,v5),(.s yJ,v6),(.s yW,v)]:=rfl
theorem mp8 (v0 v1 v2 v3 v4 v5 v6 v7 v:PV):mput (.s yal) v [(.s yd,v0),(.s ye,v1),(.s yi,v2),(.s yj,v3),(.s yr,v4),(.s yB,v5),(.s yJ,v6),(.s yW,v7)]=[(.s yd,v0),(.s ye,v1),(.s yi,v2),(.s yj,v3),(.s yr,v4),(.s yB,v5),(.s yJ,v6),(.s yW,v7),(.s yal,v)]:=rfl
theorem mp9 (v0 v1 v2 v3 v4 v5 v6 v7 v8 v:PV):mput (.s yaV) v [(.s yd,v0),(.s ye,v1),(.s yi,v2),(.s yj,v3),(.s yr,v4),(.s yB,v5),(.s yJ,v6),(.s yW,v7),(.s yal,v8)]=[(.s yd,v0),(.s ye,v1),(.s yi,v2),(.s yj,v3),(.s yr,v4),(.s yB,v5),(.s yJ,v6),(.s yW,v7),(.s yal,v8),(.s yaV,v)]:=rfl
theorem mp10 (v0 v1 v2 v3 v4 v5 v6 v7 v8 v9 v:PV):mput (.s ybX) v [(.s yd,v0),(.s ye,v1),(.s yi,v2),(.s yj,v3),(.s yr,v4),(.s yB,v5),(.s yJ,v6),(.s yW,v7),(.s yal,v8),(.s yaV,v9)]=[(.s yd,v0),(.s ye,v1),(.s yi,v2),(.s yj,v3),(.s yr,v4),(.s yB,v5),(.s yJ,v6),(.s yW,v7),(.s yal,v8),(.s yaV,v9),(.s ybX,v)]:=rfl
theorem yaJ (b l:PV):∀ a ∈ yb9 b l,∃ k,a.1=.s k:=by
 intro a ha;simp only [yb9,List.mem_cons,List.not_mem_nil,or_false] at ha
 rcases ha with rfl|rfl|rfl|rfl|rfl|rfl|rfl|rfl|rfl|rfl|rfl<;>exact ⟨_,rfl⟩
theorem dd_s {a b:ByteArray} {u v:PV} (h:a≠b):DD (.s a,u) (.s b,v):=by
 constructor<;>simp [PV.cells,eqCells,eqPV,h,Ne.symm h]
theorem yc0 (b l:PV):(yb9 b l).Pairwise DD:=by
 have key:∀ (K:List ByteArray) (V:List PV),K.Nodup->(List.zipWith (λk v=>((.s k:PV),v)) K V).Pairwise DD:=by
  intro K
  induction K with
  | nil=>intro V _;exact .nil
  | cons k K ih=>
   intro V h;cases V with
   | nil=>exact .nil
   | cons v V=>
    rw [List.nodup_cons] at h;refine List.pairwise_cons.2 ⟨λp hp=>?_,ih V h.2⟩
    obtain ⟨i,hi⟩:=List.mem_iff_getElem?.1 hp;rw [List.getElem?_zipWith] at hi
    split at hi
    .rename_i k' v' h1 h2
     injection hi with hi;subst hi;exact dd_s λe=>h.1 (by rw [e];exact List.mem_of_getElem? h1)
    .cases hi
 exact key [yd,ye,yi,yj,yr,yB,yJ,yW,yal,yaV,ybX] [_,_,_,_,_,_,_,_,_,_,_] (by decide)
theorem act_ok (b l:PV):∀ p ∈ yb9 b l,∀ q ∈ yb9 b l,keyOk [2] false p.1 q.1:=by
 intro p hp q hq;obtain ⟨x,hx⟩:=yaJ b l p hp;obtain ⟨y,hy⟩:=yaJ b l q hq;rw [hx,hy];exact ⟨rfl,by simp [PV.cells,eqCellsOk,eqOk]⟩
theorem yda {rs:List RV} {r:PV} {s:St} {p1 p2:Prop} {lvs:List LV} {vs:List PV} {ks:List Nat} (h1:resL s rs=some (p1,lvs)) (h2:toPVs s.look lvs=some (p2,vs,ks)) (h3:p1) (h4:p2) (h5:Weak (tupOf vs) r):RetOk rs r s:=by
 unfold RetOk;rw [h1];simp only;rw [h2];exact ⟨h3,h4,h5⟩
theorem yen {look:Nat->Option LObj} {k:Nat} {es:List (PV × PV)} {fz:Bool} (h:look k=some (.mp es fz)):toPVs look [.lm k]=some (True/\True,[.mp es],[k]):=by
 simp only [toPVs,toPV.go,toPV,h,List.append_nil]
def ActsR (b l:PV) (r:PV):Prop:=∃ es,r=.mp es/\es.Pairwise DD/\∀ p,p ∈ es↔p ∈ yb9 b l
theorem ydl (S W L:List PV):yb6 Tryz.prog 94 [.agg [.sl 16 S,.sl 14 W],.sl 11 L] (ActsR (.agg [.sl 16 S,.sl 14 W]) (.sl 11 L)):=by
 refine ydc (cF Tryz.func94 Tryz.f94.eq_1) (by simp) λX hX=>?_
 refine zgx (yay ⟨[(2,.p (.ip (.agg [.sl 16 S,.sl 14 W]) 0)),(3,.p (.ip (.sl 11 L) 0))],[],[],false⟩ ?_ ?_)
 .repeat first|refine gG ?_|show AK _;intro K H|refine H _ _ ?_;clear H K|refine gJ ?_;try exact trivial|omega
  refine .x 2 (.ip (.agg [.sl 16 S,.sl 14 W]) 0) ?_;refine .x 3 (.ip (.sl 11 L) 0) ?_;exact .cov (sS)
 refine zgx (yay ⟨[(2,.p (.ip (.agg [.sl 16 S,.sl 14 W]) 0)),(3,.p (.ip (.sl 11 L) 0)),(5,.p (.fn (.func 162) [] []))],[],[],false⟩ ?_ ?_)
 .repeat first|refine gG ?_|show AK _;intro K H|refine H _ _ ?_;clear H K|refine gJ ?_;try exact trivial|omega
  refine .x 2 (.ip (.agg [.sl 16 S,.sl 14 W]) 0) ?_;refine .x 3 (.ip (.sl 11 L) 0) ?_;exact .cov (sS)
 refine zgx (yay ⟨[(2,.p (.ip (.agg [.sl 16 S,.sl 14 W]) 0)),(3,.p (.ip (.sl 11 L) 0)),(5,.p (.fn (.func 162) [] [])),(6,.p (.fn (.func 164) [] []))],[],[],false⟩ ?_ ?_)
 .repeat first|refine gG ?_|show AK _;intro K H|refine H _ _ ?_;clear H K|refine gJ ?_;try exact trivial|omega
  refine .x 2 (.ip (.agg [.sl 16 S,.sl 14 W]) 0) ?_;refine .x 3 (.ip (.sl 11 L) 0) ?_;exact .cov (sS)
 .refine zgx (yci [2] false 7 1 mixed (by rfl) λKf hK=>?_)
  have qe:=aI qR (aI @tN (aI @mp1 (aI @mp2 (aI @mp3 (aI @mp4 (aI @mp5 (aI @mp6 (aI @mp7 (aI @mp8 (aI @mp9 @mp10))))))))));repeat' first|refine gC ?_ ?_<;>intro hc<;>try contradiction|refine zq (ybr 77 (.agg [.sl 16 S,.sl 14 W])) ?_|refine zq (ybr 86 (.agg [.sl 16 S,.sl 14 W])) ?_|refine zq (ybp 168 (.agg [.sl 16 S,.sl 14 W])) ?_|refine zq (ybp 169 (.agg [.sl 16 S,.sl 14 W])) ?_|refine gG ?_|show AK _;intro K H|refine H _ _ ?_;clear H K|refine gJ ?_;try exact trivial|omega
  refine hK _ _ (by rfl) ⟨yb9 (.agg [.sl 16 S,.sl 14 W]) (.sl 11 L),by rfl,by rfl,yc0 _ _,act_ok _ _,λes g1 g2=>?_⟩
  refine ztE ⟨.mp es,⟨es,rfl,g1,g2⟩,?_⟩;exact yda (p1:=True) (lvs:=[.lm 7]) (p2:=True/\True) (vs:=[.mp es]) (ks:=[7]) rfl (yen rfl) trivial ⟨trivial,trivial⟩ (.refl _)
abbrev n5 (a b c d e:ByteArray):PV:=.agg [.s a,.s b,.s c,.s d,.s e]
abbrev yc4 (L:List ByteArray):PV:=.sl 1 (L.map .s)
abbrev slI (L:List Int):PV:=.sl 1 (L.map (.i .i64))
def evQ (a b c d e:ByteArray) (v0 v1 v2 v3 v4 v5 v6:Int):Req:=⟨a,b,c,d,e,s0,⟨v0,v1,v2⟩,v3,v4,v5,v6⟩
theorem ybn (a b c d e:ByteArray) (v0 v1 v2 v3 v4 v5 v6:Int) (r:List Int):Pure Tryz.prog 167 [n5 a b c d e,slI (v0::v1::v2::v3::v4::v5::v6::r)] (evQ a b c d e v0 v1 v2 v3 v4 v5 v6).pv:=by
 refine zf (cF Tryz.func167 Tryz.f167.eq_1) (by simp) λhw X hX=>?_
 simp only [wfs,PV.wf,List.length_map,List.length_cons,maxLen] at hw;have hl:(7:Int)<=((r.length+1+1+1+1+1+1+1:Nat):Int):=by omega
 have qe:=aI qR (aI @tN (@List.map_cons.{0,0}));repeat' first|refine gC ?_ ?_<;>intro hc<;>try contradiction|refine gG ?_|show AK _;intro K H|refine H _ _ ?_;clear H K|refine gJ ?_;try exact trivial|omega
 exact .refl _
theorem ydk (bk:Bk) (l:List Lim) (hb:zfz bk) (a b c d e:ByteArray) (A:List ByteArray) (v0 v1 v2 v3 v4 v5 v6:Int):Pure Tryz.prog 166 [n5 a b c d e,yc4 A,slI [v0,v1,v2,v3,v4,v5,v6],.ip bk.pv 0,.ip (.sl 11 (l.map Lim.pv)) 0] (.tup [(zjv l bk (evQ a b c d e v0 v1 v2 v3 v4 v5 v6)).pv,.i .i64 (zei l bk (evQ a b c d e v0 v1 v2 v3 v4 v5 v6))]):=by
 refine zf (cF Tryz.func166 Tryz.f166.eq_1) (by simp) λhw X hX=>?_
 have qe:=aI qR @tN;repeat' first|refine gC ?_ ?_<;>intro hc<;>try contradiction|refine za (ybn a b c d e v0 v1 v2 v3 v4 v5 v6 []) ?_|refine za (zqW l bk (evQ a b c d e v0 v1 v2 v3 v4 v5 v6) hb) ?_|refine gG ?_|show AK _;intro K H|refine H _ _ ?_;clear H K|refine gJ ?_;try exact trivial|omega
 exact .refl _
theorem ybq {g:Nat} {bk y:Bk} {a b c d e:ByteArray} {A:List ByteArray} {v x:Int} (h:Pure Tryz.prog g [bk.pv,.s a,.s b,.i .i64 v] (.tup [y.pv,.i .i64 x])):Pure Tryz.prog 163 [n5 a b c d e,yc4 A,slI [v],.ip (.fn (.func g) [bk.pv] []) 0] (.tup [y.pv,.i .i64 x]):=by
 refine zf (cF Tryz.func163 Tryz.f163.eq_1) (by simp) λhw X hX=>?_
 have qe:=aI qR (aI @tN (@List.map_cons.{0,0}));repeat' first|refine gC ?_ ?_<;>intro hc<;>try contradiction|refine zq (h) ?_|refine gG ?_|show AK _;intro K H|refine H _ _ ?_;clear H K|refine gJ ?_;try exact trivial|omega
 all_goals exact .refl _
theorem ybo {g:Nat} {bk y:Bk} {a b c d e:ByteArray} {A:List ByteArray} {V:PV} {x:Int} (h:Pure Tryz.prog g [bk.pv,.s a,.s b,.s c] (.tup [y.pv,.i .i64 x])):Pure Tryz.prog 165 [n5 a b c d e,yc4 A,V,.ip (.fn (.func g) [bk.pv] []) 0] (.tup [y.pv,.i .i64 x]):=by
 refine zf (cF Tryz.func165 Tryz.f165.eq_1) (by simp) λhw X hX=>?_
 have qe:=aI qR @tN;repeat' first|refine gC ?_ ?_<;>intro hc<;>try contradiction|refine zq (h) ?_|refine gG ?_|show AK _;intro K H|refine H _ _ ?_;clear H K|refine gJ ?_;try exact trivial|omega
 all_goals exact .refl _
theorem ydj (bk:Bk) (hb:zfz bk) (a b c d e:ByteArray) (A:List ByteArray) (V:PV):Pure Tryz.prog 170 [n5 a b c d e,yc4 A,V,.ip bk.pv 0] (.tup [(zpm bk a b).pv,.i .i64 (zpI bk a b)]):=by
 refine zf (cF Tryz.func170 Tryz.f170.eq_1) (by simp) λhw X hX=>?_
 have qe:=aI qR @tN;repeat' first|refine gC ?_ ?_<;>intro hc<;>try contradiction|refine za (zqU bk a b hb) ?_|refine gG ?_|show AK _;intro K H|refine H _ _ ?_;clear H K|refine gJ ?_;try exact trivial|omega
 all_goals exact .refl _
theorem ydi (bk:Bk) (hb:zfz bk) (a b c d e:ByteArray) (A:List ByteArray) (V:PV) (hn:A.length<=1000):Pure Tryz.prog 171 [n5 a b c d e,yc4 A,V,.ip bk.pv 0] (.tup [(yu bk A).pv,.i .i64 (yE bk A)]):=by
 refine zf (cF Tryz.func171 Tryz.f171.eq_1) (by simp) λhw X hX=>?_
 have qe:=aI qR @tN;repeat' first|refine gC ?_ ?_<;>intro hc<;>try contradiction|refine za (ydn bk A hb hn) ?_|refine gG ?_|show AK _;intro K H|refine H _ _ ?_;clear H K|refine gJ ?_;try exact trivial|omega
 all_goals exact .refl _
theorem ydh (bk:Bk) (hb:zfz bk) (a b c d e:ByteArray) (A:List ByteArray) (v0 v1:Int):Pure Tryz.prog 173 [n5 a b c d e,yc4 A,slI [v0,v1],.ip bk.pv 0] (.tup [(lnB bk a b ⟨c,v0,v1⟩).pv,.i .i64 (lnC bk a b ⟨c,v0,v1⟩)]):=by
 refine zf (cF Tryz.func173 Tryz.f173.eq_1) (by simp) λhw X hX=>?_
 have qe:=aI qR (aI @tN (@List.map_cons.{0,0}));repeat' first|refine gC ?_ ?_<;>intro hc<;>try contradiction|refine za (zqZ bk a b ⟨c,v0,v1⟩ hb) ?_|refine gG ?_|show AK _;intro K H|refine H _ _ ?_;clear H K|refine gJ ?_;try exact trivial|omega
 all_goals exact .refl _
theorem ydg (bk:Bk) (l:List Lim) (hb:zfz bk) (a b c d e:ByteArray) (A:List ByteArray) (v0:Int):Pure Tryz.prog 174 [n5 a b c d e,yc4 A,slI [v0],.ip bk.pv 0,.ip (.sl 11 (l.map Lim.pv)) 0] (.tup [(rtB l bk a b v0).pv,.i .i64 (rtC l bk a b v0)]):=by
 refine zf (cF Tryz.func174 Tryz.f174.eq_1) (by simp) λhw X hX=>?_
 have qe:=aI qR (aI @tN (@List.map_cons.{0,0}));repeat' first|refine gC ?_ ?_<;>intro hc<;>try contradiction|refine za (ydp l bk a b v0 hb) ?_|refine gG ?_|show AK _;intro K H|refine H _ _ ?_;clear H K|refine gJ ?_;try exact trivial|omega
 all_goals exact .refl _
theorem ydf (bk:Bk) (hb:zfz bk) (hn:bk.wait.length<=10) (a b c d e:ByteArray) (A:List ByteArray) (v0 v1 v2 v3 v4 v5 v6 v7:Int):Pure Tryz.prog 176 [n5 a b c d e,yc4 A,slI [v0,v1,v2,v3,v4,v5,v6,v7],.ip bk.pv 0] (.tup [(zlf bk ⟨evQ a b c d e v0 v1 v2 v3 v4 v5 v6,v7⟩).pv,.i .i64 (zfD bk ⟨evQ a b c d e v0 v1 v2 v3 v4 v5 v6,v7⟩)]):=by
 refine zf (cF Tryz.func176 Tryz.f176.eq_1) (by simp) λhw X hX=>?_
 have qe:=aI qR (aI @tN (@List.map_cons.{0,0}));repeat' first|refine gC ?_ ?_<;>intro hc<;>try contradiction|refine za (ybn a b c d e v0 v1 v2 v3 v4 v5 v6 [v7]) ?_|refine za (zq1 bk ⟨evQ a b c d e v0 v1 v2 v3 v4 v5 v6,v7⟩ hb hn) ?_|refine gG ?_|show AK _;intro K H|refine H _ _ ?_;clear H K|refine gJ ?_;try exact trivial|omega
 all_goals exact .refl _
theorem yde (bk:Bk) (l:List Lim) (hb:zfz bk) (a b c d e:ByteArray) (A V:PV):Pure Tryz.prog 177 [n5 a b c d e,A,V,.ip bk.pv 0,.ip (.sl 11 (l.map Lim.pv)) 0] (.tup [(srvB l bk).pv,.i .i64 0]):=by
 refine zf (cF Tryz.func177 Tryz.f177.eq_1) (by simp) λhw X hX=>?_
 have qe:=aI qR @tN;repeat' first|refine gC ?_ ?_<;>intro hc<;>try contradiction|refine za (zq0 l bk hb) ?_|refine gG ?_|show AK _;intro K H|refine H _ _ ?_;clear H K|refine gJ ?_;try exact trivial|omega
 all_goals exact .refl _
