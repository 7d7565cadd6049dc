/- Contracts of functions, for the claim. No conditions. -/
import Derived.Test.YtijgimeokgbifaaGreatRows
import Derived.Test.YtijgimeokgbifaaGreatA2
set_option linter.all false
set_option maxHeartbeats 8000000
set_option maxRecDepth 100000
namespace Go.Proofs.YtijgimeokgbifaaGreat
open Go.RowKit
inductive ChG (Sem:St->RO->LV->List (Nat × LObj)->Prop):List RO->St->List Rec->St->Prop
 | nil (s:St):ChG Sem [] s [] s
 | cons {o:RO} {r:List RO} {s s':St} {v:LV} {wr:List (Nat × LObj)} {rs:List Rec}:Sem s o v wr->ChG Sem r ((s.wrs wr).set o.dst v) rs s'->ChG Sem (o::r) s (⟨o,v,wr,rdO s o⟩::rs) s'
theorem yed {P:Program} {Sem:St->RO->LV->List (Nat × LObj)->Prop} (hs:∀ s o v wr,zbu P s o v wr->Sem s o v wr) {l:List RO} {s s':St} {rs:List Rec} (h:Ch P l s rs s'):ChG Sem l s rs s':=by
 induction h with
 | nil s=>exact .nil s
 | cons h1 _ ih=>exact .cons (hs _ _ _ _ h1) ih
theorem ye1 {Sem:St->RO->LV->List (Nat × LObj)->Prop} {l1 l2:List RO} {s s1 s2:St} {r1 r2:List Rec} (h1:ChG Sem l1 s r1 s1) (h2:ChG Sem l2 s1 r2 s2):ChG Sem (l1++l2) s (r1++r2) s2:=by
 induction h1 with
 | nil s=>exact h2
 | cons h _ ih=>exact .cons h (ih h2)
theorem yee {Sem:St->RO->LV->List (Nat × LObj)->Prop} {l:List RO} {s s':St} {rs:List Rec} (h:ChG Sem l s rs s'):∀ (n i:Nat) (x:Rec),rs[i]?=some x->∃ si:St,l[i]?=some x.o/\Sem si x.o x.v x.wr/\x.ro=rdO si x.o /\
  (∀ k,si.get k=ov gW rs n (λj=>decide (j < n+i)) s.get k)/\(∀ k,si.look k=ov oW rs n (λj=>decide (j < n+i)) s.look k):=by
 induction h with
 | nil s=>intro n i x hx;simp at hx
 | @cons o r s s' v wr rs hs hch ih=>
  intro n i x hx;cases i with
  | zero=>
   simp at hx;subst hx;exact ⟨s,rfl,hs,rfl,λk=>(zb3 (λj hj=>by simp;omega)).symm,λk=>(zb3 (λj hj=>by simp;omega)).symm⟩
  | succ i=>
   obtain ⟨si,h1,h2,h3,h4,h5⟩:=ih (n+1) i x (by simpa using hx)
   refine ⟨si,by simpa using h1,h2,h3,λk=>?_,λk=>?_⟩
   .rw [h4 k]
    simp only [ov];refine zby (λj y hy hw=>by simp only [decide_eq_decide];omega) ?_
    rw [zg7 s ⟨o,v,wr,rdO s o⟩ k];simp
   .rw [h5 k]
    simp only [ov];refine zby (λj y hy hw=>by simp only [decide_eq_decide];omega) ?_
    rw [ze3 s ⟨o,v,wr,rdO s o⟩ k];simp
theorem ycR {Sem:St->RO->LV->List (Nat × LObj)->Prop} {l:List RO} {s s':St} {rs:List Rec} (h:ChG Sem l s rs s'):∀ (n:Nat),rs.length=l.length/\s'.tr=s.tr/\s'.stop=s.stop/\(∀ k,s'.get k=ov gW rs n (λ_=>true) s.get k)/\(∀ k,s'.look k=ov oW rs n (λ_=>true) s.look k):=by
 induction h with
 | nil s=>intro n;exact ⟨rfl,rfl,rfl,λ_=>rfl,λ_=>rfl⟩
 | @cons o r s s' v wr rs hs hch ih=>
  intro n;obtain ⟨h0,h1,h2,h4,h5⟩:=ih (n+1);refine ⟨by simp [h0],by rw [h1,(z7 _ _ _).1,(zbh _ _).1],by rw [h2,(z7 _ _ _).2,(zbh _ _).2],λk=>?_,λk=>?_⟩
  .rw [h4 k]
   simp only [ov];refine zby (λj y hy hw=>rfl) ?_
   rw [zg7 s ⟨o,v,wr,rdO s o⟩ k];simp
  .rw [h5 k]
   simp only [ov];refine zby (λj y hy hw=>rfl) ?_
   rw [ze3 s ⟨o,v,wr,rdO s o⟩ k];simp
theorem ycb {look:Nat->Option LObj}:∀ (vs:List PV),∃ pre,toPV.go look 4 (vs.map .p)=some (pre,vs,[])/\pre
 | []=>⟨True,by simp only [List.map_nil,toPV.go],trivial⟩
 | v::r=>by
  obtain ⟨pre,h1,h2⟩:=ycb (look:=look) r;exact ⟨True/\pre,by simp only [List.map_cons,toPV.go,toPV,h1,List.append_nil],trivial,h2⟩
theorem ycv {P:Program} {ops:Array Oper} {oper:Oper} {o:RO} {N:Nat} {s:St} {X:Fx} {C:Ctx} {tr:List (List PV)} {stop:Bool} {a:Act} {w:World} {ro:Option Nat} {f:Nat} {vs:List PV} {S:PV->Prop} (ho:o.op=.call f) (hg:o.guard=none) (ht:uns (zd s o.args)=vs.map .p) (hcn:zI (zd s o.args)=true)
  (hp:yb6 P f vs S) (hc:zcg P N ops oper=some o) (hN:X.N=N) (h:RelC X C s.get s.look tr stop a w) {K:Act->World->Prop} {Q:Exit->Act->World->Prop}
  (hK:∀ r,S r->∀ C' a' w',RelC X C' (s.set o.dst (.p r)).get (s.set o.dst (.p r)).look tr stop a' w'->K a' w') :
  if Region.wanted oper (yielded ops a.tmps) then oper.wpIn (zar ro) 0 P a w K Q else (∀ f,oper.about P w a.eval=some f->(zar ro).fn f)/\K (a.put oper.dst undef) w:=by
 have hr:=zal hc;have hdst:∀ k,o.dst=some k->k < X.N:=λk hk=>by rw [hN];exact hr.hdst k (by rw [<-hr.hd];exact hk)
 have hgo:gOf s o.guard=some true:=by rw [hg];rfl
 rw [zO h hr hgo];obtain ⟨hcall,hpure⟩:=hp;have hc':=hr.hc;rw [ho] at hc';obtain ⟨args,ts,hop,hl⟩:=zbW hc';have hins:=zap h rfl hcn;have hrs:=z9 hl (λ_ h=>h) hins
 have e0:o.args.map (λy=>(y.ev s).un)=uns (zd s o.args):=by simp [uns,zd]
 rw [e0] at hrs;obtain ⟨pre,q1,q2⟩:=ycb (look:=s.look) vs;rw [<-ht] at q1;have hreps:=zaZ h hrs q1 q2;refine zbK hop hcall (Calls.mono (hpure w _ _ (λb hb=>?_) hreps) ?_)
 .rcases hb with hb|⟨k,hk,ob,h1,h2⟩
  .exact h.blt b hb
  .exact (h.sep k ob b h1 h2).2.1
 .rintro e w' ⟨u,r,hS,rfl,hbel,hu⟩
  refine ⟨u,rfl,?_⟩;rw [<-hr.hd];have h2:=h.grow hbel (λb=>C.B b\/(w.heap.size<=b/\b < w'.heap.size)) (λ_ h=>.inl h) (λb hb=>hb)
  have hu':Rep w' (λb=>C.B b\/(w.heap.size<=b/\b < w'.heap.size)) u r:=hu.mono (λb hb=>hb.elim (λhb=>hb.elim .inl (λ⟨k,hk,_⟩=>by cases hk)) .inr) (λ_ _=>rfl)
  exact hK r hS _ _ _ (zao h2 hdst (RepL.p (C:={ C with B:=λb=>C.B b\/(w.heap.size<=b/\b < w'.heap.size) }) (l:=s.look) hu') (LV.Sc.p (l:=s.look) r))
def SemS (P:Program) (oq:RO) (vs:List PV) (S:PV->Prop) (s:St) (o:RO) (v:LV) (wr:List (Nat × LObj)):Prop:=
 zbu P s o v wr\/(o=oq/\(∃ r,S r/\v=.p r)/\wr=[]/\uns (zd s oq.args)=vs.map .p/\zI (zd s oq.args)=true)
theorem ydQ {P:Program} {ro:Option Nat} {X:Fx} {ops:Array Oper} (hM:X.MOk) {L1 L2:List RO} {oq:RO} {rs1 rs2:List Rec} {s:St} {s':PV->St} {S:PV->Prop} {f:Nat} {vs:List PV} {ro0:List Nat}
  (hch:∀ r,S r->ChG (SemS P oq vs S) (L1++oq::L2) s (rs1++⟨oq,.p r,[],ro0⟩::rs2) (s' r)) (hq1:rs1.length=L1.length) (hdi:∀ o ∈ L1++L2,o.dst≠oq.dst)
  (hop:oq.op=.call f) (hgd:oq.guard=none) (hp:yb6 P f vs S) (hcomp:zaX P X.N ops ops.toList=some (L1++oq::L2))
  (hok:∀ r,zfl 0 (rs1++⟨oq,.p r,[],ro0⟩::rs2)=true) {QX:Exit->Act->World->Prop}
  (hQ:∀ r,S r->∀ C a w,RelC X C (s' r).get (s' r).look (s' r).tr (s' r).stop a w->QX .normal a w) :
  ∀ (fuel:Nat) (listed:Array Bool) (a:Act) (w:World),listed.size=ops.size->ziA listed ops.size<=fuel->(∀ j o,(L1++oq::L2)[j]?=some o->listed.getD j false=true->∀ e ∈ o.after,listed.getD e false=true) ->
  (∃ (C:Ctx) (σ:St) (r:PV),S r/\RelC X C σ.get σ.look σ.tr σ.stop a w/\σ.tr=s.tr/\σ.stop=s.stop/\(∀ k,σ.get k=ov gW (rs1++⟨oq,.p r,[],ro0⟩::rs2) 0 (λj=>listed.getD j false) s.get k)/\(∀ k,σ.look k=ov oW (rs1++⟨oq,.p r,[],ro0⟩::rs2) 0 (λj=>listed.getD j false) s.look k)) ->
  wpAnyIn (zar ro) 0 P .any ops QX fuel listed a w:=by
 obtain ⟨hcl,hcg⟩:=zaW hcomp
 have hn:(L1++oq::L2).length=ops.size:=by rw [<-hcl];simp
 have hfin:∀ (listed:Array Bool) (a:Act) (w:World),(∀ i,i < (L1++oq::L2).length->listed.getD i false=true) ->
   (∃ (C:Ctx) (σ:St) (r:PV),S r/\RelC X C σ.get σ.look σ.tr σ.stop a w/\σ.tr=s.tr/\σ.stop=s.stop/\(∀ k,σ.get k=ov gW (rs1++⟨oq,.p r,[],ro0⟩::rs2) 0 (λj=>listed.getD j false) s.get k)/\(∀ k,σ.look k=ov oW (rs1++⟨oq,.p r,[],ro0⟩::rs2) 0 (λj=>listed.getD j false) s.look k))->QX .normal a w:=by
  rintro listed a w hall ⟨C,σ,r,hr,h,h1,h2,h3,h4⟩
  obtain ⟨hlen,htr,hst,hget,hlook⟩:=ycR (hch r hr) 0
  have e1:σ.get=(s' r).get:=funext λk=>by
   rw [h3 k,hget k]
   exact zby (λj x hx _=>by rw [Nat.zero_add];exact hall _ (by have:=(List.getElem?_eq_some_iff.1 hx).1;omega)) rfl
  have e2:σ.look=(s' r).look:=funext λk=>by
   rw [h4 k,hlook k]
   exact zby (λj x hx _=>by rw [Nat.zero_add];exact hall _ (by have:=(List.getElem?_eq_some_iff.1 hx).1;omega)) rfl
  rw [e1,e2,h1,h2,<-htr,<-hst] at h
  exact hQ r hr C a w h
 have hat:∀ (i:Nat) (oper:Oper),ops[i]?=some oper->∃ o,(L1++oq::L2)[i]?=some o/\zcg P X.N ops oper=some o:=λi oper hi=>hcg i oper (by simpa using hi)
 intro fuel
 induction fuel with
 | zero=>
  intro listed a w hs hl hc hst2
  have hall:=zhY (Nat.le_zero.1 hl)
  have hno:Region.ready .any ops listed=[]:=List.eq_nil_iff_forall_not_mem.2 λi hi=>by
   obtain ⟨oper,h1,h2,_⟩:=za1.1 hi
   have hlt:=(Array.getElem?_eq_some_iff.1 h1).1
   have:=hall i hlt
   rw [Array.getD_eq_getD_getElem?,Array.getElem?_eq_getElem (by omega)] at this h2
   simp only [Option.getD_some] at this h2
   rw [this] at h2;cases h2
  exact ⟨hno,hfin listed a w (λi hi=>hall i (by omega)) hst2⟩
 | succ fuel ih=>
  intro listed a w hs hl hc hst2
  by_cases hall2:∀ i,i < (L1++oq::L2).length->listed.getD i false=true
  .have hno:Region.ready .any ops listed=[]:=List.eq_nil_iff_forall_not_mem.2 λi hi=>by
    obtain ⟨oper,h1,h2,_⟩:=za1.1 hi
    have hlt:=(Array.getElem?_eq_some_iff.1 h1).1
    have:=hall2 i (by omega)
    rw [Array.getD_eq_getD_getElem?,Array.getElem?_eq_getElem (by omega)] at this h2
    simp only [Option.getD_some] at this h2
    rw [this] at h2;cases h2
   exact ⟨λ_=>hfin listed a w hall2 hst2,λi hi=>by rw [hno] at hi;cases hi⟩
  obtain ⟨C,σ,r,hSr,hrel,e1,e2,e3,e4⟩:=hst2
  have hchr:=hch r hSr
  obtain ⟨hlen,htr,hst,hget,hlook⟩:=ycR hchr 0
  have hrec:∀ (i:Nat),i < (L1++oq::L2).length->∃ x,(rs1++⟨oq,.p r,[],ro0⟩::rs2)[i]?=some x/\(L1++oq::L2)[i]?=some x.o:=λi hi=>by
   have hx:=List.getElem?_eq_getElem (l:=rs1++⟨oq,.p r,[],ro0⟩::rs2) (i:=i) (by omega)
   obtain ⟨si,g1,_⟩:=yee hchr 0 i _ hx
   exact ⟨_,hx,g1⟩
  have hex:∃ i,i < (L1++oq::L2).length/\listed.getD i false=false/\∀ j,j < i->listed.getD j false=true:=by
   have key:∀ n,(∃ i,i < n/\listed.getD i false=false)->∃ i,i < n/\listed.getD i false=false/\∀ j,j < i->listed.getD j false=true:=by
    intro n
    induction n with
    | zero=>rintro ⟨i,hi,_⟩;omega
    | succ n ihn=>
     intro hx
     by_cases hy:∃ i,i < n/\listed.getD i false=false
     .obtain ⟨i,e1,e2,e3⟩:=ihn hy;exact ⟨i,by omega,e2,e3⟩
     .obtain ⟨i,e1,e2⟩:=hx
      have:i=n:=by
       by_cases e:i=n
       .exact e
       .exact absurd ⟨i,by omega,e2⟩ hy
      subst this
      exact ⟨i,by omega,e2,λj hj=>by
       cases hq:listed.getD j false with
       | true=>rfl
       | false=>exact absurd ⟨j,hj,hq⟩ hy⟩
   refine key _ ?_
   refine Classical.byContradiction λhno=>hall2 λi hi=>?_
   cases hq:listed.getD i false with
   | true=>rfl
   | false=>exact absurd ⟨i,hi,hq⟩ hno
  obtain ⟨i0,hi0,hf0,hb0⟩:=hex
  refine ⟨λhr=>?_,λii hi=>?_⟩
  .exfalso
   obtain ⟨x,hx,hLx⟩:=hrec i0 hi0
   have hlt0:i0 < ops.size:=by rw [<-hn];exact hi0
   have hoper:=Array.getElem?_eq_getElem hlt0
   obtain ⟨o,g1,hco⟩:=hat i0 _ hoper
   rw [hLx] at g1;injection g1 with g1
   have:i0 ∈ Region.ready .any ops listed:=za1.2 ⟨_,hoper,by
    rw [Array.getD_eq_getD_getElem?] at hf0 ⊢
    rw [Array.getElem?_eq_getElem (by omega)] at hf0 ⊢
    exact hf0,(zcX (zal hco) (listed:=λe=>listed.getD e false)).2 λe he=>hb0 e (by rw [<-g1] at he;have:=zoI (hok r) hx e he;omega)⟩
   rw [hr] at this;cases this
  obtain ⟨oper,g1,g2,g3⟩:=za1.1 hi
  have hilt:=(Array.getElem?_eq_some_iff.1 g1).1
  have hun:listed.getD ii false=false:=by
   rw [Array.getD_eq_getD_getElem?,Array.getElem?_eq_getElem (by omega)] at g2 ⊢
   exact g2
  obtain ⟨o,hLo,hcx⟩:=hat ii oper g1
  have haf:=(zcX (zal hcx) (listed:=λe=>listed.getD e false)).1 g3
  obtain ⟨x,hx,hLx⟩:=hrec ii (by omega)
  rw [hLo] at hLx;injection hLx with hLx;subst hLx
  obtain ⟨si,_,k2,k3,k4,k5⟩:=yee hchr 0 ii x hx
  have hcR:∀ j y,(rs1++⟨oq,.p r,[],ro0⟩::rs2)[j]?=some y->listed.getD (0+j) false=true->∀ e ∈ y.o.after,listed.getD e false=true:=λj y hy hj=>by
   have hjl:j < (L1++oq::L2).length:=by rw [<-hlen];exact (List.getElem?_eq_some_iff.1 hy).1
   obtain ⟨y',hy',hLy⟩:=hrec j hjl
   rw [hy] at hy';injection hy' with hy';subst hy'
   exact hc j _ hLy (by rw [Nat.zero_add] at hj;exact hj)
  have hbef:∀ (j:Nat) (y:Rec),(rs1++⟨oq,.p r,[],ro0⟩::rs2)[j]?=some y->j≠ii->cf y x=true/\cf x y=true->listed.getD j false=decide (j < ii):=λj y hy hne hcf2=>by
   by_cases hji:j < ii
   .have hd:=zib (hok r) hji hy hx hcf2.1
    have:listed.getD (0+j) false=true:=zfm (S:=λj=>listed.getD j false) hcR 3 j ii x hx haf hd
    rw [Nat.zero_add] at this
    rw [this];simp [hji]
   .have hij:ii < j:=by omega
    have hd:=zib (hok r) hij hx hy hcf2.2
    cases hq:listed.getD j false with
    | false=>simp [hji]
    | true=>
     have:listed.getD (0+ii) false=true:=zfm (S:=λj=>listed.getD j false) hcR 3 ii j y hy (hcR j y hy (by rw [Nat.zero_add];exact hq)) hd
     rw [Nat.zero_add,hun] at this;cases this
  have hT:∀ k,k ∈ x.rT\/k ∈ x.wT->∀ j y,(rs1++⟨oq,.p r,[],ro0⟩::rs2)[j]?=some y->(gW y k).isSome=true->listed.getD (0+j) false=decide (j < 0+ii):=λk hk j y hy hw=>by
   rw [Nat.zero_add,Nat.zero_add]
   by_cases e:j=ii
   .subst e;rw [hun];simp
   .exact hbef j y hy e (cf_T (zsV hw) hk)
  have hO:∀ k,k ∈ x.ro\/k ∈ x.wO->∀ j y,(rs1++⟨oq,.p r,[],ro0⟩::rs2)[j]?=some y->(oW y k).isSome=true->listed.getD (0+j) false=decide (j < 0+ii):=λk hk j y hy hw=>by
   rw [Nat.zero_add,Nat.zero_add]
   by_cases e:j=ii
   .subst e;rw [hun];simp
   .exact hbef j y hy e (cf_O (zsO hw) hk)
  have aT:∀ k,k ∈ x.rT\/k ∈ x.wT->σ.get k=si.get k:=λk hk=>by
   rw [e3 k,k4 k]
   exact zby (λj y hy hw=>by rw [hT k hk j y hy hw];simp only [decide_eq_decide];omega) rfl
  have aO:∀ k,k ∈ x.ro\/k ∈ x.wO->σ.look k=si.look k:=λk hk=>by
   rw [e4 k,k5 k]
   exact zby (λj y hy hw=>by rw [hO k hk j y hy hw];simp only [decide_eq_decide];omega) rfl
  have hgs:∀ j,(listed.setIfInBounds ii true).getD j false=if j=ii then true else listed.getD j false:=λj=>zg8 (by omega)
  have hcN:∀ j o,(L1++oq::L2)[j]?=some o->(listed.setIfInBounds ii true).getD j false=true->∀ e ∈ o.after,(listed.setIfInBounds ii true).getD e false=true:=λj y hy hj e he=>by
   rw [hgs] at hj ⊢
   have:listed.getD e false=true:=by
    by_cases ej:j=ii
    .subst ej;rw [hLo] at hy;injection hy with hy;subst hy;exact haf e he
    .rw [if_neg ej] at hj;exact hc j y hy hj e he
   rw [this];simp
  have hleft:ziA (listed.setIfInBounds ii true) ops.size<=fuel:=by have:=zg1 hilt hs hun;omega
  unfold wpOpIn
  rw [g1]
  rcases k2 with k2|⟨hxo,_,hwr,hin,hcn⟩
  .have hsem:zbu P σ x.o x.v x.wr:=zjc k2 (λt ht=>aT t (.inl ht)) (λk hk=>aO k (.inl (by rw [k3];exact hk))) (aO _ (.inr List.mem_cons_self)) (λk hk=>aO k (.inr (List.mem_cons_of_mem _ hk)))
   refine zb5 (X:=X) (s:=σ) hsem hcx rfl hM hrel λC' a' w' hr'=>?_
   refine ih _ a' w' (by simpa using hs) hleft hcN ⟨C',(σ.wrs x.wr).set x.o.dst x.v,r,hSr,?_,?_,?_,λk=>?_,λk=>?_⟩
   .rw [(z7 _ _ _).1,(zbh _ _).1,(z7 _ _ _).2,(zbh _ _).2];exact hr'
   .rw [(z7 _ _ _).1,(zbh _ _).1];exact e1
   .rw [(z7 _ _ _).2,(zbh _ _).2];exact e2
   .rw [zg7 σ x k]
    cases hw:gW x k with
    | none=>
     simp only [Option.getD_none]
     rw [e3 k]
     refine zby (λj y hy hwy=>?_) rfl
     rw [hgs,Nat.zero_add]
     by_cases ej:j=ii
     .subst ej;rw [hx] at hy;injection hy with hy;subst hy;rw [hw] at hwy;cases hwy
     .rw [if_neg ej]
    | some v=>
     have hk:k ∈ x.wT:=zsV (by rw [hw];rfl)
     have:=zja (W:=gW) (k:=k) (n:=0) (f:=s.get) hx
     rw [hw] at this
     simp only [Option.getD_some] at this ⊢
     rw [<-this]
     refine zby (λj y hy hwy=>?_) rfl
     rw [hgs,Nat.zero_add]
     by_cases ej:j=ii
     .subst ej;simp
     .have:=hT k (.inr hk) j y hy hwy
      rw [Nat.zero_add] at this
      rw [if_neg ej,this];simp only [decide_eq_decide];omega
   .rw [ze3 σ x k]
    cases hw:oW x k with
    | none=>
     simp only [Option.getD_none]
     rw [e4 k]
     refine zby (λj y hy hwy=>?_) rfl
     rw [hgs,Nat.zero_add]
     by_cases ej:j=ii
     .subst ej;rw [hx] at hy;injection hy with hy;subst hy;rw [hw] at hwy;cases hwy
     .rw [if_neg ej]
    | some v=>
     have hk:k ∈ x.wO:=zsO (by rw [hw];rfl)
     have:=zja (W:=oW) (k:=k) (n:=0) (f:=s.look) hx
     rw [hw] at this
     simp only [Option.getD_some] at this ⊢
     rw [<-this]
     refine zby (λj y hy hwy=>?_) rfl
     rw [hgs,Nat.zero_add]
     by_cases ej:j=ii
     .subst ej;simp
     .have:=hO k (.inr hk) j y hy hwy
      rw [Nat.zero_add] at this
      rw [if_neg ej,this];simp only [decide_eq_decide];omega
  .-- the call
   have hiq:ii=rs1.length:=by
    rcases Nat.lt_trichotomy ii L1.length with h|h|h
    .rw [List.getElem?_append_left h] at hLo
     exact absurd (by rw [hxo]) (hdi x.o (List.mem_append_left _ (List.mem_of_getElem? hLo)))
    .omega
    .rw [List.getElem?_append_right (by omega),show ii - L1.length=(ii - L1.length - 1)+1 by omega,List.getElem?_cons_succ] at hLo
     exact absurd (by rw [hxo]) (hdi x.o (List.mem_append_right _ (List.mem_of_getElem? hLo)))
   have hraw:zd σ oq.args=zd si oq.args:=List.map_congr_left λz hz=>by
    cases z with
    | t n=>exact aT n (.inl (List.mem_append_right _ (List.mem_flatMap.2 ⟨_,by rw [hxo];exact hz,by simp [AOpd.tmps]⟩)))
    | c v=>rfl
   have hother:∀ (r':PV) (j:Nat),j≠ii->(rs1++⟨oq,.p r',[],ro0⟩::rs2)[j]?=(rs1++⟨oq,.p r,[],ro0⟩::rs2)[j]?:=λr' j hj=>by
    rw [hiq] at hj
    rcases Nat.lt_or_ge j rs1.length with h|h
    .rw [List.getElem?_append_left h,List.getElem?_append_left h]
    .rw [List.getElem?_append_right h,List.getElem?_append_right h,show j - rs1.length=(j - rs1.length - 1)+1 by omega];rfl
   have hself:∀ r':PV,(rs1++⟨oq,.p r',[],ro0⟩::rs2)[ii]?=some ⟨oq,.p r',[],ro0⟩:=λr'=>by
    rw [hiq,List.getElem?_append_right (Nat.le_refl _)];simp
   have hlast:∀ r':PV,(rs1++⟨oq,.p r',[],ro0⟩::rs2).length=(rs1++⟨oq,.p r,[],ro0⟩::rs2).length:=λr'=>by simp
   rw [hxo] at hcx
   refine ycv (X:=X) (s:=σ) hop hgd (by rw [hraw];exact hin) (by rw [hraw];exact hcn) hp hcx rfl hrel λr' hr' C' a' w' hrel'=>?_
   have hovW:∀ {β:Type} (W:Rec->Nat->Option β) (k:Nat) (f0:Nat->β),(∀ r1 r2:PV,W ⟨oq,.p r1,[],ro0⟩ k=none->W ⟨oq,.p r2,[],ro0⟩ k=none) ->
     ov W (rs1++⟨oq,.p r',[],ro0⟩::rs2) 0 (λj=>listed.getD j false) f0 k=ov W (rs1++⟨oq,.p r,[],ro0⟩::rs2) 0 (λj=>listed.getD j false) f0 k:=fun {β} W k f0 _=>by
    have key:∀ (xs ys:List Rec) (n:Nat) (f1 f2:Nat->β),xs.length=ys.length->(∀ j x,xs[j]?=some x->listed.getD (n+j) false=true->ys[j]?=some x)->f1 k=f2 k->ov W xs n (λj=>listed.getD j false) f1 k=ov W ys n (λj=>listed.getD j false) f2 k:=by
     intro xs
     induction xs with
     | nil=>intro ys n f1 f2 h1 _ h3;cases ys with|nil=>exact h3|cons y ys=>simp at h1
     | cons x xs ihx=>
      intro ys n f1 f2 h1 h2 h3
      cases ys with
      | nil=>simp at h1
      | cons y ys=>
       simp only [ov]
       refine ihx ys (n+1) _ _ (by simpa using h1) (λj z hz hl=>?_) ?_
       .have:=h2 (j+1) z (by simpa using hz) (by rw [show n+(j+1)=n+1+j by omega];exact hl)
        simpa using this
       .by_cases hl:listed.getD n false=true
        .have:=h2 0 x rfl (by simpa using hl)
         simp at this;subst this
         simp only [hl,if_true,h3]
        .simp only [hl,if_false,h3];simp
    refine key _ _ 0 _ _ (hlast r') (λj x hx hl=>?_) rfl
    rw [<-hother r' j (λe=>by rw [Nat.zero_add,e,hun] at hl;cases hl)];exact hx
   refine ih _ a' w' (by simpa using hs) hleft hcN ⟨C',σ.set oq.dst (.p r'),r',hr',?_,?_,?_,λk=>?_,λk=>?_⟩
   .rw [(z7 _ _ _).1,(z7 _ _ _).2];exact hrel'
   .rw [(z7 _ _ _).1];exact e1
   .rw [(z7 _ _ _).2];exact e2
   .have hstep:(σ.set oq.dst (.p r')).get k=(gW ⟨oq,.p r',[],ro0⟩ k).getD (σ.get k):=zg7 σ ⟨oq,.p r',[],ro0⟩ k
    rw [hstep]
    cases hw:gW ⟨oq,.p r',[],ro0⟩ k with
    | none=>
     simp only [Option.getD_none]
     rw [e3 k,<-hovW gW k s.get (λ_ _ h=>by simp only [gW] at h ⊢;split at h<;>simp_all)]
     refine zby (λj y hy hwy=>?_) rfl
     rw [hgs,Nat.zero_add]
     by_cases ej:j=ii
     .subst ej;rw [hself] at hy;injection hy with hy;subst hy;rw [hw] at hwy;cases hwy
     .rw [if_neg ej]
    | some v=>
     have hk:k ∈ x.wT:=by
      have:=zsV (x:=⟨oq,.p r',[],ro0⟩) (by rw [hw];rfl)
      simp only [Rec.wT,hxo] at this ⊢;exact this
     have:=zja (W:=gW) (k:=k) (n:=0) (f:=s.get) (hself r')
     rw [hw] at this
     simp only [Option.getD_some] at this ⊢
     rw [<-this]
     refine zby (λj y hy hwy=>?_) rfl
     rw [hgs,Nat.zero_add]
     by_cases ej:j=ii
     .subst ej;simp
     .rw [hother r' j ej] at hy
      have:=hT k (.inr hk) j y hy hwy
      rw [Nat.zero_add] at this
      rw [if_neg ej,this];simp only [decide_eq_decide];omega
   .have hstep:(σ.set oq.dst (.p r')).look k=(oW ⟨oq,.p r',[],ro0⟩ k).getD (σ.look k):=ze3 σ ⟨oq,.p r',[],ro0⟩ k
    rw [hstep]
    have hw:oW ⟨oq,.p r',[],ro0⟩ k=none:=rfl
    rw [hw]
    simp only [Option.getD_none]
    rw [e4 k,<-hovW oW k s.look (λ_ _ h=>h)]
    refine zby (λj y hy hwy=>?_) rfl
    rw [hgs,Nat.zero_add]
    by_cases ej:j=ii
    .subst ej;rw [hself] at hy;injection hy with hy;subst hy;rw [hw] at hwy;cases hwy
    .rw [if_neg ej]
theorem ych {G:Cfg} {s:St} {Q:zN} {L1 L2:List RO} {oq:RO} {rs1 rs2:List Rec} {s1:St} {s':PV->St} {S:PV->Prop} {f:Nat} {vs:List PV} (r0:PV) (hr0:S r0) (hm:G.P.follows .mixedOrders=true) (hop:oq.op=.call f) (hgd:oq.guard=none) (hp:yb6 G.P f vs S)
  (h1:Ch G.P L1 s rs1 s1) (hin:uns (zd s1 oq.args)=vs.map .p) (hcn:zI (zd s1 oq.args)=true) (h2:∀ r,S r->Ch G.P L2 (s1.set oq.dst (.p r)) rs2 (s' r)) (hdi:∀ o ∈ L1++L2,o.dst≠oq.dst)
  (hok:∀ r,zfl 0 (rs1++⟨oq,.p r,[],rdO s1 oq⟩::rs2)=true) (hQ:∀ r,S r->Q .normal (s' r)):Run G (.ops true (L1++oq::L2)) s Q:=by
 intro hG code hc C a w hr;cases code<;>simp only [zC,Option.map_eq_some_iff] at hc
 case region id ops draw=>
  obtain ⟨l',h3,hc⟩:=hc;injection hc with e1 e2;subst e1;subst e2;have hb:Below w.heap.size w { w with drawn:=w.drawn+1 }:=⟨rfl,rfl,rfl,Nat.le_refl _,λ_ _=>rfl⟩
  have hr1:=hr.grow hb C.B (λ_ h=>h) (λb hb=>.inl hb)
  refine wpIn_region_any hm ?_;have hch:∀ r,S r->ChG (SemS G.P oq vs S) (L1++oq::L2) s (rs1++⟨oq,.p r,[],rdO s1 oq⟩::rs2) (s' r):=λr hSr=>
   ye1 (yed (λ_ _ _ _ h=>.inl h) h1) (.cons (.inr ⟨rfl,⟨r,hSr,rfl⟩,rfl,hin,hcn⟩) (yed (λ_ _ _ _ h=>.inl h) (h2 r hSr)))
  have A4:ziA (Array.replicate ops.size false) ops.size<=ops.size:=by
   unfold ziA;exact Nat.le_trans (List.countP_le_length) (by simp)
  exact ydQ hG.mok hch (zs4 h1).1 hdi hop hgd hp h3 hok (λr hSr C a w hr=>⟨s' r,C,hr,hQ r hSr⟩) ops.size _ a _ (by simp) A4 (λj o hj2 hl=>by rw [yd3 ops.size j] at hl;cases hl)
   ⟨C,s,r0,hr0,hr1,rfl,rfl,λk=>(zb3 λj _=>yd3 ops.size j).symm,λk=>(zb3 λj _=>yd3 ops.size j).symm⟩
 all_goals first|(cases hc;done)|(obtain ⟨_,_,hc⟩:=hc;cases hc;done)|(split at hc<;>cases hc;done)
def zipR (L:List RO) (X:List (LV × List (Nat × LObj) × List Nat)):List Rec:=List.zipWith (λo x=>⟨o,x.1,x.2.1,x.2.2⟩) L X
theorem ycg {G:Cfg} {s:St} {Q:zN} {L1 L2:List RO} {oq:RO} {rs1:List Rec} (X2:List (LV × List (Nat × LObj) × List Nat)) {s1:St} (s':PV->St) {S:PV->Prop} {f:Nat} {vs:List PV} (r0:PV) (hr0:S r0) (hm:G.P.follows .mixedOrders=true) (hop:oq.op=.call f) (hgd:oq.guard=none) (hp:yb6 G.P f vs S)
  (h1:Ch G.P L1 s rs1 s1) (hin:uns (zd s1 oq.args)=vs.map .p) (hcn:zI (zd s1 oq.args)=true) (h2:∀ r,S r->Ch G.P L2 (s1.set oq.dst (.p r)) (zipR L2 X2) (s' r)) (hdi:∀ o ∈ L1++L2,o.dst≠oq.dst)
  (hok:∀ r,zfl 0 (rs1++⟨oq,.p r,[],rdO s1 oq⟩::zipR L2 X2)=true) (hQ:∀ r,S r->Q .normal (s' r)):Run G (.ops true (L1++oq::L2)) s Q:=ych r0 hr0 hm hop hgd hp h1 hin hcn h2 hdi hok hQ
theorem ycQ {P:Program} {o:RO} {r:List RO} {s s':St} {pre:Prop} {v:LV} {wr:Option (Nat × LObj)} {rs:List Rec} (h:zdj s o=some (pre,v,wr)) (hp:pre) (hr:Ch P r ((s.wrs wr.toList).set o.dst v) rs s'):Ch P (o::r) s (⟨o,v,wr.toList,rdO s o⟩::rs) s':=
 .cons (zhy h hp) hr
theorem yf {P:Program} {o:RO} {r:List RO} {s s':St} {pre:Prop} {v:LV} {wr:Option (Nat × LObj)} {wl:List (Nat × LObj)} {ro:List Nat} {X:List (LV × List (Nat × LObj) × List Nat)} (h:zdj s o=some (pre,v,wr)) (hp:pre) (hw:wr.toList=wl) (hro:rdO s o=ro)
  (hr:Ch P r ((s.wrs wl).set o.dst v) (zipR r X) s'):Ch P (o::r) s (zipR (o::r) ((v,wl,ro)::X)) s':=by
 subst hw;subst hro;exact .cons (zhy h hp) hr
theorem ye0 {P:Program} {s:St}:Ch P [] s (zipR [] []) s:=.nil s
def seqC (G:Cfg) (y:Code) (Q:zN):zN
 | .normal,s=>ya5 G y s Q
 | .ret,s=>Q .ret s
 | .exit i,s=>Q (.exit i) s
theorem sqR {G:Cfg} {y:Code} {Q:zN} {s:St}:seqC G y Q .ret s=Q .ret s:=rfl
theorem yg {G:Cfg} {x y:Code} {s:St} {Q:zN} (h:ya5 G x s (seqC G y Q)):ya5 G (.seq x y) s Q:=by
 intro hG C a w hr;refine wpIn_seq (wpIn_mono (h hG C a w hr) ?_);rintro e a1 w1 ⟨s1,C1,r1,q1⟩;cases e with
 | normal=>exact q1 hG C1 a1 w1 r1
 | exit i=>exact ⟨s1,C1,r1,q1⟩
 | ret=>exact ⟨s1,C1,r1,q1⟩
 | goto l=>exact q1.elim
 | panic c=>exact q1.elim
 | outgrown=>exact q1.elim
theorem yn {P:Program} {X:Fx} {ro:Option Nat} {ts:List (List PV)} {N:Nat} (hX:X.N=N) {code:Code} {c:AC} {s:St} {Q:zN} (hc:zC P N code=some c) (h:Run ⟨P,X,ro,ts⟩ c s Q):ya5 ⟨P,X,ro,ts⟩ code s Q:=
 ycj (by show zC P X.N code=some c;rw [hX];exact hc) h
theorem cC {N:Nat} {code:Code} {c:AC} (h:zC Tryz.prog N code=some c:=by
  (conv=>lhs;simp only [qT,qU,cI,cS,cB,cN,cL,cG,cM,zr8,zC,zaX,zcg,zak,zah,zbZ,zr0,zhg,zaI,GB,Region.binds,mG,mT,Int.reduceNeg,Int.reduceLE,Nat.reduceLeDiff,Nat.reduceLT,and_self,reduceIte,Option.map_some,Option.map_none,Option.bind_some,Option.bind_none,List.length_cons,List.length_nil,List.map_cons,List.map_nil,List.filterMap_cons,List.filterMap_nil,List.nil_append,List.cons_append,List.getElem?_cons_zero,List.getElem?_cons_succ,List.getElem?_toArray,Option.all_some,Option.all_none,decide_true,decide_eq_true_eq,Option.toList_some,Option.toList_none,PV.cells,PV.isAgg,Nat.reduceAdd,Nat.reduceMul,Nat.reducePow,reduceCtorEq,Option.isSome_some,Option.isSome_none,Bool.false_eq_true,List.length_replicate,List.size_toArray,Array.size_empty])
  try exact rfl):zC Tryz.prog N code=some c:=h
theorem ydT:zaI Tryz.prog Tryz.f42.results.toList=some [.cell 6 2 true,.tmp 7]:=by kernel_rfl
abbrev zA3:PV:=.agg [.i .i64 0,.i .i64 0,.nilf]
abbrev evV (num:Int) (kind:ByteArray) (N V:List PV) (text:ByteArray):PV:=.agg [.i .i64 num,.s kind,.sl 1 N,.sl 1 V,.s text]
def yeD (A:List ByteArray):List ByteArray:=(A++[bs [],bs [],bs [],bs [],bs []]).take 5
theorem upd5 (A:List ByteArray):updL ([.p (.s (bs [])),.p (.s (bs [])),.p (.s (bs [])),.p (.s (bs [])),.p (.s (bs []))]:List LV) 0 (((A.map .s).take 5).map .p)=(yeD A).map λx=>LV.p (.s x):=by
 match A with
 | []=>rfl
 | [_]=>rfl
 | [_,_]=>rfl
 | [_,_,_]=>rfl
 | [_,_,_,_]=>rfl
 | a::b::c::d::e::r=>rfl
def yb8 (n v:Nat) (nm vl:Int):Bool:=(decide (0<=nm) && !decide ((n:Int)=nm)) || !decide ((v:Int)=vl)
def evF (num:Int) (kn sh:Bool) (text:ByteArray):Int:=zg [rng num 1 1000,if kn=false then 13 else 0,if sh=true then 2 else 0,if decide (text=bs [])=false then 1 else 0]
theorem yct (h1183:∀ n a b,Pure Tryz.prog 95 [.i .i64 n,.i .i64 a,.i .i64 b] (.i .i64 (rng n a b))) (h1150:∀ (b:Bool) (e:Int),Pure Tryz.prog 66 [.b b,.i .i64 e] (.i .i64 (if b then e else 0))) (h1086:∀ l:List Int,Pure Tryz.prog 39 [.sl 1 (l.map (.i .i64))] (.i .i64 (zg l)))
  (S W L:List PV) (num:Int) (kind:ByteArray) (A:List ByteArray) (V:List Int) (text:ByteArray) (nm vl:Int) (fv:PV) (kn:Bool)
  (hes:∀ es,ActsR (.agg [.sl 16 S,.sl 14 W]) (.sl 11 L) (.mp es)->(mget (.s kind) es).getD zA3=.agg [.i .i64 nm,.i .i64 vl,fv]/\(mget (.s kind) es).isSome=kn/\keysOk [2] false (.s kind) es)
  (hf:fv.one=true) (xs ys:List PV) (c:Int) (hdo:evF num kn (yb8 A.length V.length nm vl) text=0->∃ f caps,fv=.fn (.func f) [] caps/\Pure Tryz.prog f (.agg ((yeD A).map .s)::.sl 1 (A.map .s)::.sl 1 (V.map (.i .i64))::caps) (.tup [.agg [.sl 16 xs,.sl 14 ys],.i .i64 c])) :
  Pure Tryz.prog 42 [.agg [.sl 16 S,.sl 14 W],.sl 11 L,evV num kind (A.map .s) (V.map (.i .i64)) text] (if evF num kn (yb8 A.length V.length nm vl) text=0 then .tup [.agg [.sl 16 xs,.sl 14 ys],.i .i64 c] else .tup [.agg [.nilsl,.nilsl],.i .i64 (evF num kn (yb8 A.length V.length nm vl) text)]):=by
 refine ydb Tryz.func42 (by kernel_rfl) rfl ydT (by show 3<=_;decide) (by decide) λhw X hX=>?_
 have hA:=ydl S W L;refine yg (yn hX cC ?_);have qe:=aI qR @tN;repeat' first|refine gC ?_ ?_<;>intro hc<;>try contradiction|refine gG ?_|show AK _;intro K H|refine H _ _ ?_;clear H K|refine gJ ?_;try exact trivial|omega
 clear qe
 change ya5 _ _ _ _
 refine yg (yn hX cC ?_);refine ycg (L1:=[_,_]) [(.lp 5 1,[],[5]),(.p (.s kind),[],[5]),(.p (.tup [.agg [.i .i64 nm,.i .i64 vl,fv],.b kn]),[],[]),(.p (.tup [.agg [.i .i64 nm,.i .i64 vl,fv],.b kn]),[],[]),(.p (.agg [.i .i64 nm,.i .i64 vl,fv]),[],[]),(.p (.b kn),[],[]),
   (.lp 8 0,[(8,.box [.p (.i .i64 0),.p (.i .i64 0),.p .nilf] false)],[]),(.any,[(8,.box [.p (.i .i64 nm),.p (.i .i64 vl),.p fv] false)],[8]),(.p (.b kn),[],[])]
  (λr=>⟨[(9,.p (.b kn)),(8,.lp 8 0),(21,.p (.b kn)),(20,.p (.agg [.i .i64 nm,.i .i64 vl,fv])),(13,.p (.tup [.agg [.i .i64 nm,.i .i64 vl,fv],.b kn])),(19,.p (.tup [.agg [.i .i64 nm,.i .i64 vl,fv],.b kn])),(18,.p (.s kind)),(17,.lp 5 1),(16,.p r),(15,.p (.sl 11 L)),(14,.p (.agg [.sl 16 S,.sl 14 W])),
   (7,.p (.i .i64 0)),(6,.lp 6 0),(5,.lp 5 0),(3,.lp 3 0),(0,.p (.agg [.sl 16 S,.sl 14 W])),(1,.p (.sl 11 L)),(2,.p (evV num kind (A.map .s) (V.map (.i .i64)) text))],
   [(3,.box [.p (.sl 16 S),.p (.sl 14 W)] false),(5,.box [.p (.i .i64 num),.p (.s kind),.p (.sl 1 (A.map .s)),.p (.sl 1 (V.map (.i .i64))),.p (.s text)] false),(6,.box [.p .nilsl,.p .nilsl] false),(8,.box [.p (.i .i64 nm),.p (.i .i64 vl),.p fv] false)],[],false⟩)
  (.mp (yb9 (.agg [.sl 16 S,.sl 14 W]) (.sl 11 L))) ⟨_,rfl,yc0 _ _,λ_=>Iff.rfl⟩ mixed rfl rfl hA (ycQ rfl ⟨λ_=>⟨rfl,by first|trivial|decide|simp⟩,λ_=>rfl,λh=>by first|(cases h;done)|rfl⟩ (ycQ rfl trivial (.nil _))) rfl rfl ?_ ?_ ?_ ?_
 .rintro r ⟨es,rfl,hd,hp⟩
  obtain ⟨g1,g2,g3⟩:=hes es ⟨es,rfl,hd,hp⟩;have hl:∀ (σ:St) (o:RO) (p:Prop),zdj σ o=some (p,.p (.tup [(mget (.s kind) es).getD zA3,.b (mget (.s kind) es).isSome]),none)->zdj σ o=some (p,.p (.tup [.agg [.i .i64 nm,.i .i64 vl,fv],.b kn]),none):=λσ o p h=>by rw [h,g1,g2]
  refine yf rfl ⟨λ_=>⟨rfl,by first|trivial|decide|simp⟩,λ_=>rfl,λh=>by first|(cases h;done)|rfl⟩ rfl rfl ?_
  refine yf rfl ⟨λ_=>⟨rfl,by first|trivial|decide|simp⟩,λ_=>rfl,λh=>by first|(cases h;done)|rfl⟩ rfl rfl ?_
  refine yf (hl _ _ _ rfl) ⟨λ_=>⟨rfl,⟨rfl,trivial,trivial⟩,g3⟩,λ_=>rfl,λh=>by first|(cases h;done)|rfl⟩ rfl rfl ?_
  refine yf rfl trivial rfl rfl ?_;refine yf rfl ⟨λ_=>⟨rfl,by first|trivial|decide|simp⟩,λ_=>rfl,λh=>by first|(cases h;done)|rfl⟩ rfl rfl ?_
  refine yf rfl ⟨λ_=>⟨rfl,by first|trivial|decide|simp⟩,λ_=>rfl,λh=>by first|(cases h;done)|rfl⟩ rfl rfl ?_
  refine yf rfl ⟨λ_=>⟨rfl,by first|trivial|decide|simp⟩,λ_=>rfl,λh=>by first|(cases h;done)|rfl⟩ rfl rfl ?_
  refine yf rfl ⟨λ_=>⟨rfl,Nat.le_refl 3,rfl,rfl,rfl,hf,trivial⟩,λ_=>rfl,λh=>by cases h⟩ rfl rfl ?_
  refine yf rfl trivial rfl rfl ?_;exact ye0
 .intro o ho
  simp only [List.cons_append,List.nil_append,List.mem_cons,List.not_mem_nil,or_false] at ho
  rcases ho with rfl|rfl|rfl|rfl|rfl|rfl|rfl|rfl|rfl|rfl|rfl<;>simp
 .intro r;rfl
 intro r _
 change ya5 _ _ _ _
 refine yg (yn hX cC ?_);have qe:=aI qR @tN;repeat' first|refine gC ?_ ?_<;>intro hc<;>try contradiction|refine gG ?_|show AK _;intro K H|refine H _ _ ?_;clear H K|refine gJ ?_;try exact trivial|omega
 change ya5 _ _ _ _
 generalize hsh:(decide (0<=nm) && !decide ((A.length:Int)=nm) || !decide ((V.length:Int)=vl))=sh
 clear qe;refine yaO ⟨[(10,.p (.b sh)),(9,.p (.b kn)),(8,.lp 8 0),(7,.p (.i .i64 0)),(6,.lp 6 0),(5,.lp 5 0)],
   [(5,.box [.p (.i .i64 num),.p (.s kind),.p (.sl 1 (A.map .s)),.p (.sl 1 (V.map (.i .i64))),.p (.s text)] false),(6,.box [.p .nilsl,.p .nilsl] false),(8,.box [.p (.i .i64 nm),.p (.i .i64 vl),.p fv] false)],[],false⟩ (sS) ?_
 rw [show yb8 A.length V.length nm vl=sh from hsh] at hdo ⊢
 by_cases hE:evF num kn sh text=0
 .rw [if_pos hE]
  have hEt:(zg [rng num 1 1000,if kn=false then 13 else 0,if sh=true then 2 else 0,if decide (text=bs [])=false then 1 else 0]=0)=True:=eq_true hE
  refine yg (yn hX cC ?_);have qe:=aI qR (aI @tN (aI @hEt (aI @decide_true @Bool.not_true)));repeat' first|refine gC ?_ ?_<;>intro hc<;>try contradiction|refine za (h1183 _ _ _) ?_|refine za (h1150 _ _) ?_|refine za (h1086 [_,_,_,_]) ?_|refine gG ?_|show AK _;intro K H|refine H _ _ ?_;clear H K|refine gJ ?_;try exact trivial|omega
  change ya5 _ _ _ _
  clear qe;refine yaO ⟨[(8,.lp 8 0),(7,.p (.i .i64 0)),(6,.lp 6 0),(5,.lp 5 0)],
   [(5,.box [.p (.i .i64 num),.p (.s kind),.p (.sl 1 (A.map .s)),.p (.sl 1 (V.map (.i .i64))),.p (.s text)] false),(6,.box [.p .nilsl,.p .nilsl] false),(8,.box [.p (.i .i64 nm),.p (.i .i64 vl),.p fv] false)],[],false⟩ (sS) ?_
  refine yg (yn hX cC ?_);have qe:=aI qR @tN;repeat' first|refine gC ?_ ?_<;>intro hc<;>try contradiction|refine gG ?_|show AK _;intro K H|refine H _ _ ?_;clear H K|refine gJ ?_;try exact trivial|omega
  change ya5 _ _ _ _
  clear qe;refine yg (ybN mixed Tryz.underlying169 (by kernel_rfl) Tryz.underlying27 (by kernel_rfl) (by kernel_rfl) Tryz.underlying30 rfl (sf:=1) (by kernel_rfl) (by decide) rfl rfl rfl rfl (by decide) rfl (L:=A.map .s) rfl ?_ ?_ (by decide) (by decide) ⟨rfl,rfl,rfl,rfl⟩ ?_)
  .intro p hp
   obtain ⟨z,_,rfl⟩:=List.mem_map.1 hp;exact ⟨rfl,rfl⟩
  .show 59 < X.N/\60 < X.N/\61 < X.N/\62 < X.N
   rw [hX];decide
  obtain ⟨f,caps,rfl,hPf⟩:=hdo hE;rw [upd5];obtain ⟨a1,a2,a3,a4,a5,h5⟩:∃ a1 a2 a3 a4 a5,yeD A=[a1,a2,a3,a4,a5]:=by
   match A with
   | []=>exact ⟨_,_,_,_,_,rfl⟩
   | [_]=>exact ⟨_,_,_,_,_,rfl⟩
   | [_,_]=>exact ⟨_,_,_,_,_,rfl⟩
   | [_,_,_]=>exact ⟨_,_,_,_,_,rfl⟩
   | [_,_,_,_]=>exact ⟨_,_,_,_,_,rfl⟩
   | a::b::c::d::e::r=>exact ⟨_,_,_,_,_,rfl⟩
  rw [h5] at hPf ⊢
  change ya5 _ _ ⟨[(12,.lp 12 0),(8,.lp 8 0),(7,.p (.i .i64 0)),(6,.lp 6 0),(5,.lp 5 0)],
   [(5,.box [.p (.i .i64 num),.p (.s kind),.p (.sl 1 (A.map .s)),.p (.sl 1 (V.map (.i .i64))),.p (.s text)] false),(6,.box [.p .nilsl,.p .nilsl] false),(8,.box [.p (.i .i64 nm),.p (.i .i64 vl),.p (.fn (.func f) [] caps)] false),(12,.box [.p (.s a1),.p (.s a2),.p (.s a3),.p (.s a4),.p (.s a5)] false)],[],false⟩ _
  refine yn hX cC ?_;have qe:=aI qR @tN;repeat' first|refine gC ?_ ?_<;>intro hc<;>try contradiction|refine zq (hPf) ?_|refine gG ?_|show AK _;intro K H|refine H _ _ ?_;clear H K|refine gJ ?_;try exact trivial|omega
  all_goals exact .refl _
 .rw [if_neg hE]
  have hEt:(zg [rng num 1 1000,if kn=false then 13 else 0,if sh=true then 2 else 0,if decide (text=bs [])=false then 1 else 0]=0)=False:=eq_false hE
  refine yg (yn hX cC ?_);have qe:=aI qR (aI @tN (aI @hEt (aI @decide_false @Bool.not_false)));repeat' first|refine gC ?_ ?_<;>intro hc<;>try contradiction|refine za (h1183 _ _ _) ?_|refine za (h1150 _ _) ?_|refine za (h1086 [_,_,_,_]) ?_|refine gG ?_|show AK _;intro K H|refine H _ _ ?_;clear H K|refine gJ ?_;try exact trivial|omega
  clear qe;rw [sqR];refine gJ ?_;exact .refl _
structure Evt where
 num:Int
 kind:ByteArray
 names:List ByteArray
 vals:List Int
 text:ByteArray
abbrev Evt.pv (e:Evt):PV:=.agg [.i .i64 e.num,.s e.kind,.sl 1 (e.names.map .s),.sl 1 (e.vals.map (.i .i64)),.s e.text]
def nA (l:List ByteArray) (i:Nat):ByteArray:=(l[i]?).getD s0
def vA (l:List Int) (i:Nat):Int:=(l[i]?).getD 0
def evR (e:Evt):Req:=evQ (nA e.names 0) (nA e.names 1) (nA e.names 2) (nA e.names 3) (nA e.names 4) (vA e.vals 0) (vA e.vals 1) (vA e.vals 2) (vA e.vals 3) (vA e.vals 4) (vA e.vals 5) (vA e.vals 6)
def doB (bk:Bk) (l:List Lim) (e:Evt):Nat->Bk × Int
 | 0=>(zjv l bk (evR e),zei l bk (evR e))
 | 1=>(zvN bk (nA e.names 0) (nA e.names 1) (vA e.vals 0),zo8 bk (nA e.names 0) (nA e.names 1) (vA e.vals 0))
 | 2=>(reB bk (nA e.names 0) (nA e.names 1) (vA e.vals 0),reC bk (nA e.names 0) (nA e.names 1) (vA e.vals 0))
 | 3=>(trB bk (nA e.names 0) (nA e.names 1) (nA e.names 2),trC bk (nA e.names 0) (nA e.names 1) (nA e.names 2))
 | 4=>(shB bk (nA e.names 0) (nA e.names 1) (nA e.names 2),shC bk (nA e.names 0) (nA e.names 1) (nA e.names 2))
 | 5=>(zpm bk (nA e.names 0) (nA e.names 1),zpI bk (nA e.names 0) (nA e.names 1))
 | 6=>(yu bk e.names,yE bk e.names)
 | 7=>(lnB bk (nA e.names 0) (nA e.names 1) ⟨nA e.names 2,vA e.vals 0,vA e.vals 1⟩,lnC bk (nA e.names 0) (nA e.names 1) ⟨nA e.names 2,vA e.vals 0,vA e.vals 1⟩)
 | 8=>(rtB l bk (nA e.names 0) (nA e.names 1) (vA e.vals 0),rtC l bk (nA e.names 0) (nA e.names 1) (vA e.vals 0))
 | 9=>(zlf bk ⟨evR e,vA e.vals 7⟩,zfD bk ⟨evR e,vA e.vals 7⟩)
 | _=>(srvB l bk,0)
def yaU (k:ByteArray):Option (Int × Int × Nat):=
 if k=yd then some (5,7,0) else if k=ye then some (2,1,1) else if k=yi then some (2,1,2) else if k=yj then some (3,0,3) else if k=yr then some (3,0,4) else if k=yB then some (2,0,5)
 else if k=yJ then some (-1,0,6) else if k=yW then some (3,2,7) else if k=yal then some (2,1,8) else if k=yaV then some (5,8,9) else if k=ybX then some (0,0,10) else none
def nmO (k:ByteArray):Int:=match yaU k with|some (n,_,_)=>n|none=>0
def vlO (k:ByteArray):Int:=match yaU k with|some (_,v,_)=>v|none=>0
def evE (e:Evt):Int:=evF e.num (yaU e.kind).isSome (yb8 e.names.length e.vals.length (nmO e.kind) (vlO e.kind)) e.text
def apP (bk:Bk) (l:List Lim) (e:Evt):Bk × Int:=if evE e=0 then (match yaU e.kind with
 | some (_,_,j)=>doB bk l e j
 | none=>(bk0,13)) else (bk0,evE e)
abbrev fnOf (bk:Bk) (l:List Lim) (j:Nat):PV:=yb5 bk.pv (.sl 11 (l.map Lim.pv)) j
abbrev mpOf (bk:Bk) (l:List Lim) (k:ByteArray):Option PV:=(yaU k).map λx=>.agg [.i .i64 x.1,.i .i64 x.2.1,fnOf bk l x.2.2]
theorem eqS (a b:ByteArray):eqCells (PV.cells (.s a)) (PV.cells (.s b))=decide (a=b):=by
 simp [PV.cells,eqCells,eqPV]
theorem ydE (bk:Bk) (l:List Lim) (k:ByteArray):mget (.s k) (yb9 bk.pv (.sl 11 (l.map Lim.pv)))=mpOf bk l k:=by
 unfold mpOf yaU;simp only [mget,yb9,eqS,decide_eq_true_eq]
 by_cases h0:k=yd
 .rw [if_pos h0,if_pos h0];rfl
 rw [if_neg h0,if_neg h0]
 by_cases h1:k=ye
 .rw [if_pos h1,if_pos h1];rfl
 rw [if_neg h1,if_neg h1]
 by_cases h2:k=yi
 .rw [if_pos h2,if_pos h2];rfl
 rw [if_neg h2,if_neg h2]
 by_cases h3:k=yj
 .rw [if_pos h3,if_pos h3];rfl
 rw [if_neg h3,if_neg h3]
 by_cases h4:k=yr
 .rw [if_pos h4,if_pos h4];rfl
 rw [if_neg h4,if_neg h4]
 by_cases h5:k=yB
 .rw [if_pos h5,if_pos h5];rfl
 rw [if_neg h5,if_neg h5]
 by_cases h6:k=yJ
 .rw [if_pos h6,if_pos h6];rfl
 rw [if_neg h6,if_neg h6]
 by_cases h7:k=yW
 .rw [if_pos h7,if_pos h7];rfl
 rw [if_neg h7,if_neg h7]
 by_cases h8:k=yal
 .rw [if_pos h8,if_pos h8];rfl
 rw [if_neg h8,if_neg h8]
 by_cases h9:k=yaV
 .rw [if_pos h9,if_pos h9];rfl
 rw [if_neg h9,if_neg h9]
 by_cases h10:k=ybX
 .rw [if_pos h10,if_pos h10];rfl
 rw [if_neg h10,if_neg h10];rfl
theorem ydW {bk:Bk} {l:List Lim} {es:List (PV × PV)} (h1:es.Pairwise DD) (h2:∀ p,p ∈ es↔p ∈ yb9 bk.pv (.sl 11 (l.map Lim.pv))) (k:ByteArray):mget (.s k) es=mpOf bk l k:=by
 rw [ycx (yaJ _ _) (yc0 _ _) h1 h2,ydE]
theorem ye6 {bk:Bk} {l:List Lim} {es:List (PV × PV)} (h2:∀ p,p ∈ es↔p ∈ yb9 bk.pv (.sl 11 (l.map Lim.pv))) (k:ByteArray):keysOk [2] false (.s k) es:=
 yab λa ha=>by
  obtain ⟨x,hx⟩:=yaJ _ _ a ((h2 a).1 ha);rw [hx];exact ⟨rfl,by simp [PV.cells,eqCellsOk,eqOk]⟩
theorem yd7 (A:List ByteArray):∃ a b c d e,(yeD A).map PV.s=[.s a,.s b,.s c,.s d,.s e]:=by
 match A with
 | []=>exact ⟨_,_,_,_,_,rfl⟩
 | [_]=>exact ⟨_,_,_,_,_,rfl⟩
 | [_,_]=>exact ⟨_,_,_,_,_,rfl⟩
 | [_,_,_]=>exact ⟨_,_,_,_,_,rfl⟩
 | [_,_,_,_]=>exact ⟨_,_,_,_,_,rfl⟩
 | a::b::c::d::e::r=>exact ⟨_,_,_,_,_,rfl⟩
theorem do_ok (bk:Bk) (l:List Lim) (e:Evt) (hb:zfz bk) (hw:bk.wait.length<=10) (hN:e.names.length<=1000) {nm vl:Int} {j:Nat} (hk:yaU e.kind=some (nm,vl,j)) (hs:yb8 e.names.length e.vals.length nm vl=false) :
  ∃ f caps,fnOf bk l j=.fn (.func f) [] caps/\Pure Tryz.prog f (.agg ((yeD e.names).map .s)::yc4 e.names::slI e.vals::caps) (.tup [(doB bk l e j).1.pv,.i .i64 (doB bk l e j).2]):=by
 obtain ⟨num,kind,names,vals,text⟩:=e;simp only at hN hk;simp only [yb8,Bool.or_eq_false_iff,Bool.and_eq_false_iff,decide_eq_false_iff_not,Bool.not_eq_false',decide_eq_true_eq] at hs;obtain ⟨h1,h2⟩:=hs;rw [yaU] at hk
 repeat' split at hk
 all_goals simp only [Option.some.injEq,Prod.mk.injEq,reduceCtorEq] at hk
 all_goals obtain ⟨rfl,rfl,rfl⟩:=hk
 .have h1:=h1.resolve_left (by omega)
  match names,vals,h1,h2 with
  | [a,b,c,d,e],[v0,v1,v2,v3,v4,v5,v6],_,_=>exact ⟨_,_,rfl,ydk bk l hb a b c d e _ v0 v1 v2 v3 v4 v5 v6⟩
 .have h1:=h1.resolve_left (by omega)
  match names,vals,h1,h2 with
  | [a,b],[v0],_,_=>exact ⟨_,_,rfl,ybq (zqV bk a b v0 hb)⟩
 .have h1:=h1.resolve_left (by omega)
  match names,vals,h1,h2 with
  | [a,b],[v0],_,_=>exact ⟨_,_,rfl,ybq (zqX bk a b v0 hb)⟩
 .have h1:=h1.resolve_left (by omega)
  match names,vals,h1,h2 with
  | [a,b,c],[],_,_=>exact ⟨_,_,rfl,ybo (ydm bk a b c hb)⟩
 .have h1:=h1.resolve_left (by omega)
  match names,vals,h1,h2 with
  | [a,b,c],[],_,_=>exact ⟨_,_,rfl,ybo (ydo bk a b c hb)⟩
 .have h1:=h1.resolve_left (by omega)
  match names,vals,h1,h2 with
  | [a,b],[],_,_=>exact ⟨_,_,rfl,ydj bk hb a b _ _ _ _ _⟩
 .obtain ⟨a,b,c,d,e,h5⟩:=yd7 names
  refine ⟨_,_,rfl,?_⟩;show Pure Tryz.prog 171 (.agg ((yeD names).map .s)::_) _;rw [h5];exact ydi bk hb a b c d e names _ hN
 .have h1:=h1.resolve_left (by omega)
  match names,vals,h1,h2 with
  | [a,b,c],[v0,v1],_,_=>exact ⟨_,_,rfl,ydh bk hb a b c _ _ _ v0 v1⟩
 .have h1:=h1.resolve_left (by omega)
  match names,vals,h1,h2 with
  | [a,b],[v0],_,_=>exact ⟨_,_,rfl,ydg bk l hb a b _ _ _ _ v0⟩
 .have h1:=h1.resolve_left (by omega)
  match names,vals,h1,h2 with
  | [a,b,c,d,e],[v0,v1,v2,v3,v4,v5,v6,v7],_,_=>exact ⟨_,_,rfl,ydf bk hb hw a b c d e _ v0 v1 v2 v3 v4 v5 v6 v7⟩
 .obtain ⟨a,b,c,d,e,h5⟩:=yd7 names
  refine ⟨_,_,rfl,?_⟩;show Pure Tryz.prog 177 (.agg ((yeD names).map .s)::_) _;rw [h5];exact yde bk l hb a b c d e _ _
def fvO (bk:Bk) (l:List Lim) (k:ByteArray):PV:=match yaU k with|some (_,_,j)=>fnOf bk l j|none=>.nilf
theorem yeb (bk:Bk) (l:List Lim) (k:ByteArray):(mpOf bk l k).getD zA3=.agg [.i .i64 (nmO k),.i .i64 (vlO k),fvO bk l k]/\(mpOf bk l k).isSome=(yaU k).isSome:=by
 unfold mpOf nmO vlO fvO;cases yaU k with
 | none=>exact ⟨rfl,rfl⟩
 | some x=>exact ⟨rfl,rfl⟩
theorem fv_one (bk:Bk) (l:List Lim) (k:ByteArray):(fvO bk l k).one=true:=by
 unfold fvO
 split
 .rename_i j _
  unfold fnOf yb5
  split<;>rfl
 .rfl
theorem ybC {e:Evt} (h:evE e=0):∃ nm vl j,yaU e.kind=some (nm,vl,j)/\yb8 e.names.length e.vals.length nm vl=false:=by
 unfold evE evF at h;have h1:=fE0 h (if (yaU e.kind).isSome=false then 13 else 0) (by simp)
 have h2:=fE0 h (if yb8 e.names.length e.vals.length (nmO e.kind) (vlO e.kind)=true then 2 else 0) (by simp)
 cases hk:yaU e.kind with
 | none=>rw [hk] at h1;simp at h1
 | some x=>
  obtain ⟨nm,vl,j⟩:=x;refine ⟨nm,vl,j,rfl,?_⟩;simp only [nmO,vlO,hk] at h2;cases hs:yb8 e.names.length e.vals.length nm vl with
  | false=>rfl
  | true=>rw [hs] at h2;simp at h2
theorem yaA (bk:Bk) (l:List Lim) (e:Evt) (hb:zfz bk) (hw10:bk.wait.length<=10) (hN:e.names.length<=1000):Pure Tryz.prog 42 [bk.pv,.sl 11 (l.map Lim.pv),e.pv] (.tup [(apP bk l e).1.pv,.i .i64 (apP bk l e).2]):=by
 have:=yct zki zU zw (bk.slots.map Slt.pv) (bk.wait.map Wsh.pv) (l.map Lim.pv) e.num e.kind e.names e.vals e.text (nmO e.kind) (vlO e.kind) (fvO bk l e.kind) (yaU e.kind).isSome
  (λes h=>by
   obtain ⟨es',h1,h2,h3⟩:=h;injection h1 with h1;subst h1;rw [ydW h2 h3];exact ⟨(yeb bk l e.kind).1,(yeb bk l e.kind).2,ye6 h3 e.kind⟩) (fv_one bk l e.kind)
  ((apP bk l e).1.slots.map Slt.pv) ((apP bk l e).1.wait.map Wsh.pv) (apP bk l e).2 (λh=>by
   obtain ⟨nm,vl,j,hk,hs⟩:=ybC (e:=e) h;obtain ⟨f,caps,h1,h2⟩:=do_ok bk l e hb hw10 hN hk hs;refine ⟨f,caps,by rw [fvO,hk];exact h1,?_⟩
   have ea:apP bk l e=doB bk l e j:=by rw [apP,if_pos (show evE e=0 from h),hk]
   rw [ea];exact h2)
 have er:(if evF e.num (yaU e.kind).isSome (yb8 e.names.length e.vals.length (nmO e.kind) (vlO e.kind)) e.text=0 then PV.tup [.agg [.sl 16 ((apP bk l e).1.slots.map Slt.pv),.sl 14 ((apP bk l e).1.wait.map Wsh.pv)],.i .i64 (apP bk l e).2] else .tup [.agg [.nilsl,.nilsl],.i .i64 (evF e.num (yaU e.kind).isSome (yb8 e.names.length e.vals.length (nmO e.kind) (vlO e.kind)) e.text)])=(if evE e=0 then PV.tup [(apP bk l e).1.pv,.i .i64 (apP bk l e).2] else .tup [.agg [.nilsl,.nilsl],.i .i64 (evE e)]):=rfl
 rw [er] at this
 by_cases h:evE e=0
 .rw [if_pos h] at this;exact this
 .rw [if_neg h] at this
  have ea:apP bk l e=(bk0,evE e):=by rw [apP,if_neg h]
  rw [ea];exact zat this (zbv _)
