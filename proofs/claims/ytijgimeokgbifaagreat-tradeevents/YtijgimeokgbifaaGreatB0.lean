/- Contracts of functions, for the claim. No conditions. -/
import Derived.ProofKit
import Derived.OpenShut
import Derived.Carry
import Derived.OpenVars
import Derived.HandedShaped
import Derived.KernelRfl
import Derived.Laws.RangeAny
import Derived.Test.YtijgimeokgbifaaGreatK15
set_option linter.all false
set_option maxHeartbeats 8000000
set_option maxRecDepth 100000
namespace Go.Proofs.YtijgimeokgbifaaGreat
open Go.ChangeShapes Go.WideShapes Go.ChangeAt Go.RowKit Go.Proofs.Tryz
def yDF:=aI @decide_true @decide_false
def yDT:=aI @decide_true (aI @decide_false @Bool.not_true)
def yS (P:Program) (t:TypeId):Bool:=match P.underlying t with|some (.struct _)|some (.array _ _)=>true|_=>false
def yU (P:Program) (F:TypeId->Option (List CP)):List (TypeId × Nat)->Nat->Option (List CP)
 | [],_=>some []
 | p::r,off=>if p.2=off then (F p.1).bind λc=>if P.cellsOf p.1=c.length then (yU P F r (off+c.length)).map (c++·) else none else none
def yay (P:Program):Nat->Nat->TypeId->Option (List CP)
 | 0,_,_=>none
 | n+1,sl,t=>match P.underlying t with
  | some .bool=>some [.b]
  | some (.int k)=>some [.i k]
  | some .string=>some [.s]
  | some (.slice e)=>match sl with
   | 0=>none
   | sl+1=>(yay P n sl e).bind λc=>if P.cellsOf e=c.length/\(yS P e=true\/c.length=1)/\0 < c.length then some [.sl (yS P e) c] else none
  | some (.struct fs)=>(yU P (yay P n sl) (fs.toList.map λf=>(f.type,f.offset)) 0).bind λc=>if c.length=P.cellsOf t then some c else none
  | some (.array m e)=>(yU P (yay P n sl) ((List.range m).map λi=>(e,i*P.cellsOf e)) 0).bind λc=>if c.length=P.cellsOf t then some c else none
  | _=>none
def ybe (ag:Bool) (l:List PV):PV:=if ag then .agg l else l.headD .any
def Fit:Nat->CP->PV->Prop
 | _,.b,p=>∃ x,p=.b x
 | _,.i k,p=>∃ n,p=.i k n
 | _,.s,p=>∃ x,p=.s x
 | 0,.sl _ _,_=>False
 | n+1,.sl ag cs,p=>∃ xs,p=.sl cs.length xs/\∀ x ∈ xs,∃ l,x=ybe ag l/\FitAll (Fit n) cs l
theorem y9 {α β:Type} {f:α->Option β}:∀ {l:List α} {r:List β},l.mapM f=some r->∀ x ∈ l,∃ y,f x=some y
 | [],_,_,x,hx=>by cases hx
 | a::l,r,h,x,hx=>by
  rw [xci] at h;cases ha:f a with
  | none=>rw [ha] at h;cases h
  | some y=>
   rw [ha] at h;simp only [xcw,xby] at h;cases hl:l.mapM f with
   | none=>rw [hl] at h;cases h
   | some ys=>
    rcases xaA.1 hx with rfl|hx
    .exact ⟨y,ha⟩
    .exact y9 hl x hx
theorem yO {α β:Type} {f:α->Option β}:∀ {l:List α} {r:List β},l.mapM f=some r->r.length=l.length
 | [],r,h=>by simp at h;subst h;rfl
 | a::l,r,h=>by
  rw [xci] at h;cases ha:f a with
  | none=>rw [ha] at h;cases h
  | some y=>
   rw [ha] at h;simp only [xcw,xby] at h;cases hl:l.mapM f with
   | none=>rw [hl] at h;cases h
   | some ys=>
    rw [hl] at h;simp only [xby,Option.pure_def,xaR] at h;subst h;simp [yO hl]
theorem ybl {α β:Type} {f:α->Option β}:∀ {l:List α} {r:List β},l.mapM f=some r->∀ {i:Nat} {x:α},l[i]?=some x->f x=r[i]?
 | [],r,_,i,x,hx=>by simp at hx
 | a::l,r,h,i,x,hx=>by
  rw [xci] at h;cases ha:f a with
  | none=>rw [ha] at h;cases h
  | some y=>
   rw [ha] at h;simp only [xcw,xby] at h;cases hl:l.mapM f with
   | none=>rw [hl] at h;cases h
   | some ys=>
    rw [hl] at h;simp only [xby,Option.pure_def,xaR] at h;subst h;cases i with
    | zero=>simp at hx;subst hx;simpa using ha
    | succ i=>simpa using ybl hl (i:=i) (by simpa using hx)
def yeC {k:IntKind} {n:Int} (h:(Lit.int k n).wf=true):k.wrap n=n:=by
 cases k<;>simp [Lit.wf,IntKind.wrap,IntKind.min,IntKind.max,IntKind.signed,IntKind.bits] at *<;>omega
section
variable {H:Type} {enc:TypeId × Value->H} {P:Program} {w:World} {base:Nat} {sp:Nat->Bool} {held:Bool}
def ycT {a:Addr} {v:Value} (h:w.cell? a=some v):a.block < w.heap.size/\a.spot=none:=by
 unfold World.cell? at h
 split at h
 .rename_i hh
  split at h
  .cases h
  .rename_i hs;exact ⟨(xa1.1 hh).1,by simpa using hs⟩
 .cases h
theorem yab {fuel n:Nat} {sl:Nat} {B:Nat->Prop} {cs:List Value}
  (ih:∀ {t:TypeId} {ds:List Value} {x:DataW H × List MemPlace} {c:List CP},(∀ v ∈ ds,v ∈ cs)->DataW.trod enc P w base sp held fuel t ds=some x->yay P n sl t=some c->∃ ps,Reps w B ds ps/\FitAll (Fit n) c ps) :
  ∀ (fl:List (TypeId × Nat)) (off:Nat) (c:List CP),(∀ p ∈ fl,∃ x,DataW.trod enc P w base sp held fuel p.1 ((cs.drop p.2).take (P.cellsOf p.1))=some x)->yU P (yay P n sl) fl off=some c->off+c.length<=cs.length ->
   ∃ ps,Reps w B ((cs.drop off).take c.length) ps/\FitAll (Fit n) c ps
 | [],off,c,_,h,_=>by
  simp only [yU,xaR] at h;subst h;exact ⟨[],by simpa using Reps.nil,trivial⟩
 | p::r,off,c,hx,h,hl=>by
  simp only [yU] at h
  split at h
  .rename_i ho;obtain ⟨c1,h1,h⟩:=xao.1 h
   split at h
   .rename_i hc;obtain ⟨c2,h2,rfl⟩:=xac.1 h;obtain ⟨x,hx1⟩:=hx p (by simp)
    rw [ho,hc] at hx1;obtain ⟨p1,r1,f1⟩:=ih (λv hv=>xbA (xbf hv)) hx1 h1
    obtain ⟨p2,r2,f2⟩:=yab ih r (off+c1.length) c2 (λq hq=>hx q (by simp [hq])) h2 (by simp at hl;omega)
    refine ⟨p1++p2,?_,f1.app f2⟩;have e:(cs.drop off).take (c1++c2).length=(cs.drop off).take c1.length++(cs.drop (off+c1.length)).take c2.length:=by
     rw [xae,List.take_add,xbL]
    rw [e];exact r1.append r2
   .cases h
  .cases h
theorem yaj {B:Nat->Prop} (hB:∀ b,b < w.heap.size->B b):∀ (n fuel:Nat) (sl:Nat) {t:TypeId} {cs:List Value} {x:DataW H × List MemPlace} {c:List CP},
  DataW.trod enc P w base sp held fuel t cs=some x->yay P n sl t=some c->∃ ps,Reps w B cs ps/\FitAll (Fit n) c ps
 | 0,_,_,_,_,_,_,_,h=>by simp [yay] at h
 | _+1,0,_,_,_,_,_,h,_=>by simp [DataW.trod] at h
 | n+1,fuel+1,sl,t,cs,x,c,h,hc=>by
  have mono:∀ {c:List CP} {ps:List PV},FitAll (Fit n) c ps->FitAll (Fit (n+1)) c ps:=by
   have one:∀ (m:Nat) (c:CP) (p:PV),Fit m c p->Fit (m+1) c p:=by
    intro m
    induction m with
    | zero=>intro c p h;cases c<;>first|exact h|exact h.elim
    | succ m ihm=>
     intro c p h
     cases c with
     | b=>exact h
     | i k=>exact h
     | s=>exact h
     | sl ag cs=>
      obtain ⟨xs,h1,h2⟩:=h
      refine ⟨xs,h1,λx hx=>?_⟩
      obtain ⟨l,h3,h4⟩:=h2 x hx
      refine ⟨l,h3,?_⟩
      have:∀ (a:List CP) (b:List PV),FitAll (Fit m) a b->FitAll (Fit (m+1)) a b:=by
       intro a
       induction a with
       | nil=>intro b hb;cases b<;>exact hb
       | cons y r ihr=>
        intro b hb
        cases b with
        | nil=>exact hb
        | cons z q=>exact ⟨ihm _ _ hb.1,ihr _ hb.2⟩
      exact this _ _ h4
   intro c
   induction c with
   | nil=>intro ps h;cases ps<;>exact h
   | cons y r ihr=>
    intro ps h
    cases ps with
    | nil=>exact h
    | cons z q=>exact ⟨one _ _ _ h.1,ihr h.2⟩
  unfold DataW.trod at h
  unfold yay at hc
  cases hu:P.underlying t with
  | none=>rw [hu] at hc;cases hc
  | some d=>
   rw [hu] at h hc
   match d,h,hc with
   | .bool,h,hc=>
    simp only [xaR] at hc;subst hc
    match cs,h with
    | [.bool b],h=>exact ⟨[.b b],Reps.cons (.b b) Reps.nil,⟨b,rfl⟩,trivial⟩
   | .int k,h,hc=>
    simp only [xaR] at hc;subst hc
    match cs,h with
    | [.int k' m],h=>
     simp only at h
     split at h
     .rename_i hk
      obtain ⟨rfl,hw⟩:=hk
      exact ⟨[.i k' m],Reps.cons (.i (yeC hw)) Reps.nil,⟨m,rfl⟩,trivial⟩
     .cases h
   | .string,h,hc=>
    simp only [xaR] at hc;subst hc
    match cs,h with
    | [.string z],h=>
     simp only at h
     split at h
     .rename_i hk
      exact ⟨[.s z],Reps.cons (.s hk) Reps.nil,⟨z,rfl⟩,trivial⟩
     .cases h
   | .slice e,h,hc=>
    simp only at hc
    cases sl with
    | zero=>cases hc
    | succ sl=>
     obtain ⟨ce,h1,hc⟩:=xao.1 hc
     split at hc
     .rename_i hce
      simp only [xaR] at hc;subst hc
      match cs,h with
      | [.slice none 0 0],h=>exact ⟨[.sl ce.length []],Reps.cons .sl0 Reps.nil,⟨[],rfl,λx hx=>by cases hx⟩,trivial⟩
      | [.slice (some a) len cap],h=>
       simp only at h
       split at h
       .rename_i hb
        obtain ⟨els,h2,_⟩:=xao.1 h
        by_cases hl0:len=0
        .subst hl0
         exact ⟨[.sl ce.length []],Reps.cons (.sle hb.2.2) Reps.nil,⟨[],rfl,λx hx=>by cases hx⟩,trivial⟩
        have hBa:B a.block/\a.spot=none:=by
         obtain ⟨y,hy⟩:=y9 h2 0 (xaV.2 (by omega))
         obtain ⟨us,h3,h4⟩:=xao.1 hy
         unfold World.cells? at h3
         split at h3
         .have h5:=ybl h3 (i:=0) (x:=0) (List.getElem?_range (by rw [hce.1];exact hce.2.2))
          have h6:us.length=P.cellsOf e:=by simpa using yO h3
          have h7:0 < us.length:=by rw [h6,hce.1];exact hce.2.2
          rw [xab h7] at h5
          have e0:∀ z:Addr,z.add 0=z:=λz=>by unfold Addr.add;simp
          rw [Nat.zero_mul,e0,e0] at h5
          obtain ⟨k1,k2⟩:=ycT h5
          exact ⟨hB _ k1,k2⟩
         .cases h3
        have key:∀ i,i < len->∃ (us:List Value) (ps:List PV),(∀ j v,us[j]?=some v->w.cell? (a.add (i*ce.length+j))=some v)/\Reps w B us ps/\FitAll (Fit n) ce ps:=λi hi=>by
         obtain ⟨y,hy⟩:=y9 h2 i (xaV.2 hi)
         obtain ⟨us,h3,h4⟩:=xao.1 hy
         obtain ⟨ps,h5,h6⟩:=yaj (B:=B) hB n fuel sl h4 h1
         refine ⟨us,ps,λj v hv=>?_,h5,h6⟩
         unfold World.cells? at h3
         split at h3
         .have hlen:j < P.cellsOf e:=by
           have e1:us.length=P.cellsOf e:=by
            have:=yO h3
            simpa using this
           rw [<-e1];exact (xaa.1 hv).1
          have:=ybl h3 (List.getElem?_range hlen)
          rw [hv] at this
          rw [hce.1] at this
          rw [<-Addr.add_add];exact this
         .cases h3
        classical
        let U:Nat->List Value:=λi=>if hi:i < len then (key i hi).choose else []
        let PS:Nat->List PV:=λi=>if hi:i < len then (key i hi).choose_spec.choose else []
        have hU:∀ i,i < len->(∀ j v,(U i)[j]?=some v->w.cell? (a.add (i*ce.length+j))=some v)/\Reps w B (U i) (PS i)/\FitAll (Fit n) ce (PS i):=λi hi=>by
         have:=(key i hi).choose_spec.choose_spec
         simp only [U,PS,dif_pos hi];exact this
        have hcells:∀ i,i < len->(ybe (yS P e) (PS i)).cells=PS i:=λi hi=>by
         unfold ybe
         split
         .rfl
         .rename_i hag
          have hl:=(hU i hi).2.2
          have h1l:ce.length=1:=hce.2.1.resolve_left hag
          obtain ⟨q,rfl⟩:∃ q,ce=[q]:=List.length_eq_one_iff.1 h1l
          match hPS:PS i,hl with
          | [z],hl=>
           have hz:=hl.1
           simp only [List.headD_cons]
           cases q with
           | b=>cases n<;>(obtain ⟨_,rfl⟩:=hz;rfl)
           | i k=>cases n<;>(obtain ⟨_,rfl⟩:=hz;rfl)
           | s=>cases n<;>(obtain ⟨_,rfl⟩:=hz;rfl)
           | sl ag cs=>
            cases n with
            | zero=>exact hz.elim
            | succ n=>obtain ⟨_,rfl,_⟩:=hz;rfl
        refine ⟨[.sl ce.length ((List.range len).map λi=>ybe (yS P e) (PS i))],Reps.cons (.sl (λi j=>(U i)[j]?.getD undef) hBa.1 hBa.2 (by simp) hb.2.1 hb.2.2 ?_ ?_ ?_) Reps.nil,⟨_,rfl,λx hx=>?_⟩,trivial⟩
        .intro i x hx
         simp only [xah,xac] at hx
         obtain ⟨i',hi',rfl⟩:=hx
         obtain ⟨hi,rfl⟩:=xaa.1 hi'
         simp only [xbH,xcz] at hi ⊢
         rw [hcells i hi,(hU i hi).2.2.len]
        .intro i x j p hx hp
         simp only [xah,xac] at hx
         obtain ⟨i',hi',rfl⟩:=hx
         obtain ⟨hi,rfl⟩:=xaa.1 hi'
         simp only [xbH,xcz] at hi hp ⊢
         rw [hcells i hi] at hp
         obtain ⟨v,hv,_⟩:=(hU i hi).2.1.get hp
         rw [hv];exact (hU i hi).1 j v hv
        .intro i x j p hx hp
         simp only [xah,xac] at hx
         obtain ⟨i',hi',rfl⟩:=hx
         obtain ⟨hi,rfl⟩:=xaa.1 hi'
         simp only [xbH,xcz] at hi hp ⊢
         rw [hcells i hi] at hp
         obtain ⟨v,hv,hr⟩:=(hU i hi).2.1.get hp
         rw [hv];exact hr
        .obtain ⟨i,hi,rfl⟩:=xaT.1 hx
         exact ⟨_,rfl,(hU i (xaV.1 hi)).2.2⟩
       .cases h
     .cases hc
   | .struct fs,h,hc=>
    simp only at h hc
    obtain ⟨c',h1,hc⟩:=xao.1 hc
    split at hc
    .rename_i hl
     simp only [xaR] at hc;subst hc
     split at h
     .rename_i hcs
      obtain ⟨xs,h2,_⟩:=xac.1 h
      obtain ⟨ps,h3,h4⟩:=yab (B:=B) (cs:=cs) (n:=n) (sl:=sl) (λhsub hx hc=>yaj hB n fuel sl hx hc) (fs.toList.map λf=>(f.type,f.offset)) 0 c' (λp hp=>by
       obtain ⟨f,hf,rfl⟩:=xaT.1 hp
       exact y9 h2 f hf) h1 (by omega)
      rw [xb1,hl,<-hcs,xas] at h3
      exact ⟨ps,h3,mono h4⟩
     .cases h
    .cases hc
   | .array m e,h,hc=>
    simp only at h hc
    obtain ⟨c',h1,hc⟩:=xao.1 hc
    split at hc
    .rename_i hl
     simp only [xaR] at hc;subst hc
     split at h
     .rename_i hcs
      obtain ⟨xs,h2,_⟩:=xac.1 h
      obtain ⟨ps,h3,h4⟩:=yab (B:=B) (cs:=cs) (n:=n) (sl:=sl) (λhsub hx hc=>yaj hB n fuel sl hx hc) ((List.range m).map λi=>(e,i*P.cellsOf e)) 0 c' (λp hp=>by
       obtain ⟨i,hi,rfl⟩:=xaT.1 hp
       exact y9 h2 i hi) h1 (by omega)
      rw [xb1,hl,<-hcs,xas] at h3
      exact ⟨ps,h3,mono h4⟩
     .cases h
    .cases hc
end
open Go.ChangeShapes Go.WideShapes Go.ChangeAt Go.RowKit Go.Proofs.Tryz
def yep (P:Program) (n:Nat) (t:TypeId):Option (Bool × List CP):=(yay P n 2 t).bind λc=>if yS P t=true\/c.length=1 then some (yS P t,c) else none
def yax (P:Program) (n:Nat) (t:TypeId) (p:PV):Prop:=
 (∃ ag c l,yep P n t=some (ag,c)/\p=ybe ag l/\FitAll (Fit n) c l)/\(∀ e sz xs,P.underlying t=some (.slice e)->p=.sl sz xs->xs.length*P.bytesOf e<=reachBytes)
def ybx (P:Program) (n:Nat):List TypeId->List PV->Prop
 | [],[]=>True
 | t::ts,p::ps=>yax P n t p/\ybx P n ts ps
 | _,_=>False
section
variable {H:Type} {enc:TypeId × Value->H} {P:Program} {W:World}
def yeZ {base n:Nat} {t:TypeId} {v:Value} {d:DataW H} {ps:List MemPlace} (hval:Value.okWide P W .any base t v) (h:DataW.Trod enc P W 0 (λ_=>true) true t v d ps) {q:Bool × List CP} (hq:yep P n t=some q)
  (hz:(d.weights P t).all (·<=reachBytes)=true):∃ p,Rep W (λb=>b < W.heap.size) v p/\yax P n t p:=by
 obtain ⟨fuel,h⟩:=h
 have hq0:=hq
 unfold yep at hq
 obtain ⟨c,hc,hq⟩:=xao.1 hq
 split at hq
 .rename_i hl
  simp only [xaR] at hq
  subst hq
  unfold yS at hl hq0
  have key:∀ {cs:List Value},DataW.trod enc P W 0 (λ_=>true) true fuel t cs=some (d,ps)->(∀ v ∈ cs,∃ u,Cell.okWide P W .any base u v)->∃ l,Reps W (λb=>b < W.heap.size) cs l/\FitAll (Fit n) c l:=λht hc1=>
   yaj (λ_ h=>h) n fuel 2 ht hc
  have other:yS P t=false->(∃ u,Cell.okWide P W .any base u v)->v.cells.toList=[v]->∃ p,Rep W (λb=>b < W.heap.size) v p/\yax P n t p:=λhag hok hcv=>by
   rw [hcv] at h
   obtain ⟨l,h1,h2⟩:=key h (λv' hv=>by simp at hv;subst hv;exact hok)
   have hlen:=h1.1
   match l,hlen with
   | [p],_=>
    have hr:=h1.2 0 v p rfl rfl
    refine ⟨p,hr,⟨false,c,[p],?_,rfl,h2⟩,λe sz xs hu he=>?_⟩
    .rw [hq0]
     have:yS P t=false:=hag
     unfold yS at this
     rw [this]
    .subst he
     cases hr with
     | sl0=>simp
     | sle=>simp
     | sl u h3 h4 h5 h6 h7 h8 h9 h10=>
      rename_i a len cap hh
      cases fuel with
      | zero=>simp [DataW.trod] at h
      | succ fuel=>
       unfold DataW.trod at h
       rw [hu] at h
       simp only at h
       split at h
       .obtain ⟨els,e1,h⟩:=xao.1 h
        obtain ⟨rest,e2,h⟩:=xac.1 h
        injection h with hd _
        subst hd
        have:=xaB.1 hz ((els.length+rest.length)*P.bytesOf e) (by simp [DataW.weights,hu])
        simp only [decide_eq_true_eq] at this
        have hle:els.length=len:=by simpa using yO e1
        rw [h5,<-hle]
        exact xa8 (xbh _ (Nat.le_add_right _ _)) this
       .cases h
  unfold Value.okWide at hval
  cases hu:P.underlying t with
  | none=>unfold yay at hc;cases n<;>simp [hu] at hc
  | some desc=>
   have ag:(∃ fs,desc=.struct fs)\/(∃ k e,desc=.array k e)\/(yS P t=false/\Cell.okWide P W .any base t v):=by
    unfold yS
    rw [hu] at hval ⊢
    cases desc<;>first|exact .inl ⟨_,rfl⟩|exact .inr (.inl ⟨_,_,rfl⟩)|exact .inr (.inr ⟨rfl,hval⟩)
   have agg:yS P t=true->(∃ cs,v=.agg cs/\cs.size=P.cellsOf t/\Row.okWide P W .any base t cs)->∃ p,Rep W (λb=>b < W.heap.size) v p/\yax P n t p:=λhag hcs=>by
    obtain ⟨cs,rfl,_,hrow⟩:=hcs
    obtain ⟨l,h1,h2⟩:=key (cs:=cs.toList) h (λv' hv=>by
     obtain ⟨ts,_,_,hcell⟩:=hrow
     obtain ⟨i,hi⟩:=xaZ hv
     obtain ⟨u,_,hk⟩:=hcell i v' (by simpa using hi)
     exact ⟨u,hk⟩)
    refine ⟨.agg l,.agg (by simpa using h1.1) (λj v' p hv hp=>h1.2 j v' p (by simpa using hv) hp),⟨true,c,l,?_,rfl,h2⟩,λe sz xs hu' he=>by cases he⟩
    rw [hq0]
    have:yS P t=true:=hag
    unfold yS at this
    rw [this]
   rcases ag with ⟨fs,rfl⟩|⟨k,e,rfl⟩|⟨hag,hok⟩
   .rw [hu] at hval
    exact agg (by unfold yS;rw [hu]) hval
   .rw [hu] at hval
    exact agg (by unfold yS;rw [hu]) hval
   .refine other hag ⟨t,hok⟩ ?_
    have:∀ cs,v≠.agg cs:=λcs e=>by
     subst e
     unfold Cell.okWide at hok
     have h2:Cell.ok P W .any base t (.agg cs):=by
      split at hok
      all_goals first|exact hok|(rename_i hv;cases hv)
     unfold Cell.ok at h2
     split at h2
     all_goals first|exact h2.elim|skip
     all_goals (rename_i hv;first|cases hv|skip)
    cases v<;>first|rfl|exact absurd rfl (this _)
 .cases hq
theorem ybQ {base n:Nat}:∀ {ts:List TypeId} {vs:List Value} {ds:List (DataW H)} {ps:List MemPlace},DataW.TrodAll enc P W 0 (λ_=>true) true ts vs ds ps->(∀ (j:Nat) t v,ts[j]?=some t->vs[j]?=some v->Value.okWide P W .any base t v) ->
  (∀ t ∈ ts,∃ q,yep P n t=some q)->(DataW.weightsEach P ts ds).all (·<=reachBytes)=true->∃ l,Reps W (λb=>b < W.heap.size) vs l/\ybx P n ts l
 | [],vs,ds,ps,h,_,_,_=>by
  obtain ⟨rfl,rfl,rfl⟩:=trodAll_nil h;exact ⟨[],Reps.nil,trivial⟩
 | t::ts,vs,ds,ps,h,hval,hq,hz=>by
  obtain ⟨v,vs1,d,ds1,a,b,rfl,rfl,rfl,h1,h2⟩:=trodAll_cons h;obtain ⟨q,hq1⟩:=hq t (by simp)
  simp only [DataW.weightsEach,List.all_append,xap] at hz;obtain ⟨p,r1,f1⟩:=yeZ (n:=n) (hval 0 t v rfl rfl) h1 hq1 hz.1;obtain ⟨l,r2,f2⟩:=ybQ h2 (λj t v ht hv=>hval (j+1) t v (by simpa using ht) (by simpa using hv)) (λt ht=>hq t (by simp [ht])) hz.2
  exact ⟨p::l,Reps.cons r1 r2,f1,f2⟩
theorem y6 (hl:laidOutB P=true) {W':World} {sp:Nat->Bool}:∀ {ts:List TypeId} {vs:List Value} {ds:List (DataW H)} {ps:List MemPlace},ts.all (λt=>P.readableRec t && decide (t < P.types.size))=true->DataW.TrodAll enc P W 0 (λ_=>true) true ts vs ds ps ->
  (∀ x ∈ ps,W.sameAt W' x)->(∀ x ∈ ps,sp x.block=true)->DataW.TrodAll enc P W' 0 sp true ts vs ds ps
 | [],vs,ds,ps,_,h,_,_=>by
  obtain ⟨rfl,rfl,rfl⟩:=trodAll_nil h;exact h
 | t::ts,vs,ds,ps,hr,h,hs,hp=>by
  obtain ⟨v,vs1,d,ds1,a,b,rfl,rfl,rfl,h1,h2⟩:=trodAll_cons h;simp only [List.all_cons,xap,decide_eq_true_eq] at hr;exact ⟨a,b,WideElems.Trod_stays hl hr.1.1 hr.1.2 h1 (λx hx=>hs x (by simp [hx])) (λx hx=>hp x (by simp [hx])),y6 hl hr.2 h2 (λx hx=>hs x (by simp [hx])) (λx hx=>hp x (by simp [hx])),rfl⟩
def yca {W':World} (hb:Below W.heap.size W W') (may:MemPlace->Prop):W.keptBut W' may:=by
 refine ⟨hb.os,hb.output,λi hi=>?_⟩
 rw [hb.block i hi];cases hh:W.heap[i]? with
 | none=>rfl
 | some o=>cases o<;>first|exact ⟨rfl,rfl,rfl,λ_ _=>rfl⟩|exact .inr ⟨rfl,rfl⟩|rfl
def yb8 {f:Func} {s:ChangeSpec} {apart fresh handsOn again:Bool} {W':World} {args:Array Value} {ds gs:List (DataW H)} {before:List MemPlace} {tb:TypeId} (hl:laidOutB P=true)
  (hrd:f.params.toList.all (λt=>P.readableRec t && decide (t < P.types.size))=true) (hW:DataW.Whole enc P f.params.toList s.vars apart W args.toList ds gs before) (hv:s.vars=[])
  (hs:s.fn H ds={ results:=[.lit (.bool true)],args:=ds }) (hr:f.resultTypes=#[tb]) (htb:P.underlying tb=some .bool) (hb:Below W.heap.size W W'):s.post enc P f apart fresh handsOn again W args (.bool true) W':=by
 have hlt:∀ p ∈ before,p.block < W.heap.size:=hW.lt;have hW0:=hW;obtain ⟨p,q,hA,hV,rfl,hz,hn⟩:=hW;rw [hv] at hV;obtain ⟨rfl,rfl⟩:=trodVars_none hV;simp only [xat] at hz hn hlt hW0;have hres:∀ (b:Nat) (sp:Nat->Bool) (hd:Bool),DataW.TrodAll enc P W' b sp hd f.resultTypes.toList ((Value.bool true).resultList f.resultTypes.size) [.lit (.bool true)] []:=λb sp hd=>by
  rw [hr];exact trodAll_cons_mk (shut_bool htb _) trodAll_mk0
 have hargs:∀ sp:Nat->Bool,(∀ x ∈ p,sp x.block=true)->DataW.TrodAll enc P W' 0 sp true f.params.toList args.toList ds p:=λsp hsp=>y6 hl hrd hA (λx hx=>hb.same (hlt x hx)) hsp
 have hvars:∀ sp:Nat->Bool,DataW.TrodVars enc P W' sp s.vars ([]:List (DataW H)) []:=λsp=>by rw [hv];rfl
 refine ⟨ds,[],p,[],p,[],hW0,by rw [xat,hs];exact hres _ _ _,by rw [xat,hs];exact hargs _ (λx hx=>by simpa using hlt x hx),by rw [xat,hs];exact hvars _,World.keptBut_mono (λx hx=>⟨hx,.inr (.inl hx)⟩) (yca hb (· ∈ p)),λ_=>?_⟩
 refine ⟨λj t r h1 h2=>?_,[.lit (.bool true)]++ds,[],p,⟨[]++p,[],trodAll_append (hargs _ (λ_ _=>rfl)) (hres _ _ _),hvars _,by simp,?_,?_⟩,λx hx _=>hx⟩
 .rw [hr] at h1 h2;cases j with
  | zero=>
   simp [Value.resultList] at h1 h2;subst h1;subst h2;exact okWide_bool_mk htb _
  | succ j=>simp at h1
 .intro b off hp;have:=hz b off hp;unfold World.frozen? at this ⊢;have e:W'.heap[b]?=W.heap[b]?:=hb.block b (hlt _ hp);simp only at this ⊢;rw [e];exact this
 .intro ha;exact hn ha
end
def ya4 {C:Checked} {f:FuncId} {fn:Func} {s:ChangeSpec} {n:Nat} {tb:TypeId} (hl:laidOutB C.prog=true) (hrd:fn.params.toList.all (λt=>C.prog.readableRec t && decide (t < C.prog.types.size))=true)
  (hv:s.vars=[]) (hs:∀ (H:Type) (ds:List (DataW H)),ds.length=fn.params.size->s.fn H ds={ results:=[.lit (.bool true)],args:=ds }) (hr:fn.resultTypes=#[tb]) (htb:C.prog.underlying tb=some .bool)
  (hq:fn.params.toList.all (λt=>(yep C.prog n t).isSome)=true) (hp:∀ ps,ybx C.prog n fn.params.toList ps->Pure C.prog f ps (.b true))
  {H:Type} {enc:TypeId × Value->H} {apart fresh handsOn again:Bool} (W:World) (base:Nat) (args:Array Value) (ds gs:List (DataW H)) (before:List MemPlace)
  (hval:∀ (j:Nat) t v,fn.params[j]?=some t->args[j]?=some v->Value.okWide C.prog W .any base t v) (hW:DataW.Whole enc C.prog fn.params.toList s.vars apart W args.toList ds gs before)
  (hz:(DataW.weightsEach C.prog (fn.params.toList++s.plain.varTypes C.prog) (ds++gs)).all (·<=reachBytes)=true) :
  Calls C.prog f args W λe W'=>∃ v,e=.returned v/\s.post enc C.prog fn apart fresh handsOn again W args v W':=by
 have hW0:=hW;obtain ⟨p,q,hA,hV,rfl,_,_⟩:=hW;have hV':=hV;rw [hv] at hV';obtain ⟨rfl,rfl⟩:=trodVars_none hV';have hlen:∀ {ts:List TypeId} {vs:List Value} {ds:List (DataW H)} {ps:List MemPlace},DataW.TrodAll enc C.prog W 0 (λ_=>true) true ts vs ds ps->ds.length=ts.length:=by
  intro ts
  induction ts with
  | nil=>intro vs ds ps h;obtain ⟨rfl,rfl,rfl⟩:=trodAll_nil h;rfl
  | cons t ts ih=>intro vs ds ps h;obtain ⟨v,vs1,d,ds1,a,b,rfl,rfl,rfl,h1,h2⟩:=trodAll_cons h;simp [ih h2]
 have hd:=hlen hA;have hz':(DataW.weightsEach C.prog fn.params.toList ds).all (·<=reachBytes)=true:=by
  rw [xat] at hz;have hsub:∀ (ts us:List TypeId) (ds:List (DataW H)),ds.length=ts.length->DataW.weightsEach C.prog (ts++us) ds=DataW.weightsEach C.prog ts ds:=by
   intro ts us
   induction ts with
   | nil=>intro ds h;match ds,h with|[],_=>cases us<;>simp [DataW.weightsEach]
   | cons t ts ih=>intro ds h;match ds,h with|d::ds,h=>simp only [xaQ,DataW.weightsEach];rw [ih ds (by simpa using h)]
  rw [hsub _ _ _ hd] at hz;exact hz
 obtain ⟨l,hrep,hfit⟩:=ybQ (n:=n) hA (λj t v ht hv'=>hval j t v (by simpa using ht) (by simpa using hv')) (λt ht=>Option.isSome_iff_exists.1 (xaB.1 hq t ht)) hz'
 have:=(hp l hfit).2 W (λb=>b < W.heap.size) args.toList (λb hb=>hb) hrep
 refine (show Calls C.prog f args W _ from by simpa using this).mono λe W' he=>?_
 obtain ⟨u,rfl,hb,hu⟩:=he;cases hu;exact ⟨_,rfl,yb8 hl hrd hW0 hv (hs H ds (by simpa using hd)) hr htb hb⟩
open Go.RowKit Go.Proofs.Tryz
def yeL {G:Cfg} {c:AC} {s:St} {Q:zN} (t:Nat) (v':PV) {pre:Prop} {v:PV} {ks:List Nat} (ht:toPV s.look 4 (s.get t)=some (pre,v,ks)) (hp:pre) (hw:Weak v v')
  (h:Run G c ((s.wrs (frzs s.look ks)).set (some t) (.p v')) Q):Run G c s Q:=by
 intro hG code hc C a w hr;obtain ⟨C',h'⟩:=hr.pub hG.mok t ht hp hw;refine h hG code hc C' a w ?_;rw [(z7 _ _ _).1,(z7 _ _ _).2,(zbf _ _).1,(zbf _ _).2];exact h'
def Pubs.rel {X:Fx} {a:Act} {w:World} {s s':St} (hM:X.MOk) (h:Pubs s s'):∀ {C:Ctx},RelC X C s.get s.look s.tr s.stop a w->∃ C',RelC X C' s'.get s'.look s'.tr s'.stop a w:=by
 induction h with
 | cov h=>exact λhr=>⟨_,zbp h hr⟩
 | pub t v' ht hp hw _ ih=>
  intro C hr;obtain ⟨C',h'⟩:=hr.pub hM t ht hp hw;refine ih (C:=C') ?_;rw [(z7 _ _ _).1,(z7 _ _ _).2,(zbf _ _).1,(zbf _ _).2];exact h'
def yc8 {G:Cfg} {c:AC} {s:St} {Q:zN} (t:Nat) (v':PV) {pre:Prop} {v:PV} {ks:List Nat} (h:Run G c ((s.wrs (frzs s.look ks)).set (some t) (.p v')) Q)
  (ht:toPV s.look 4 (s.get t)=some (pre,v,ks):=by first|exact rE|fail)
  (hp:pre:=by first|trivial|omega|(simp;done)|exact rF|fail) (hw:Weak v v':=by first|exact .refl _|exact .nilsl _):Run G c s Q:=yeL t v' ht hp hw h
def yc0 {κ:Type} (inv:κ->St) (ok:κ->Prop) (μ:κ->Nat) (k:κ) (s:St):Prop:=∃ k',ok k'/\μ k' < μ k/\Pubs s (inv k')
def ydT {κ:Type} (inv:κ->St) (ok:κ->Prop) (μ:κ->Nat) (k:κ) (Q:zN):zN
 | .normal,s=>yc0 inv ok μ k s
 | e,s=>Q e s
section
variable {κ:Type} (inv:κ->St) (ok:κ->Prop) (μ:κ->Nat) (k:κ) (Q:zN) (s:St)
def lpN:ydT inv ok μ k Q .normal s=yc0 inv ok μ k s:=rfl
def lpE (i:Nat):ydT inv ok μ k Q (.exit i) s=Q (.exit i) s:=rfl
def lpR:ydT inv ok μ k Q .ret s=Q .ret s:=rfl
end
def ycq {κ:Type} {G:Cfg} {Q:zN} {s:St} {c:AC} (inv:κ->St) (ok:κ->Prop) (μ:κ->Nat) (k0:κ) (h0:Pubs s (inv k0)) (hk0:ok k0) (hbody:∀ k,ok k->Run G c (inv k) (ydT inv ok μ k Q)):Run G (.loop c) s Q:=by
 intro hG code hc C a w hr;obtain ⟨C1,hr⟩:=h0.rel hG.mok hr;cases code<;>simp only [zC,xac] at hc
 case loop c1=>
  obtain ⟨x',h1,hc⟩:=hc;injection hc with e1;subst e1;obtain ⟨m,hm⟩:=zrA λa w n=>∃ k C,ok k/\μ k=n/\RelC G.X C (inv k).get (inv k).look (inv k).tr (inv k).stop a w
  refine wpIn_loop (λa w=>∃ n k C,ok k/\μ k=n/\RelC G.X C (inv k).get (inv k).look (inv k).tr (inv k).stop a w) m ⟨_,k0,C1,hk0,rfl,hr⟩ ?_
  intro a w hI;obtain ⟨⟨k,C,hok,hμ,hr⟩,hmin⟩:=hm a w hI;refine wpIn_mono (hbody k hok hG c1 h1 C a w hr) ?_;rintro e a' w' ⟨s',C',hr',hq⟩;cases e with
  | normal=>
   obtain ⟨k',hok',hlt,hcov⟩:=hq;obtain ⟨C2,hr2⟩:=hcov.rel hG.mok hr';have hex:∃ n,(λa w n=>∃ k C,ok k/\μ k=n/\RelC G.X C (inv k).get (inv k).look (inv k).tr (inv k).stop a w) a' w' n:=⟨_,k',C2,hok',rfl,hr2⟩
   refine ⟨hex,?_⟩;have:=(hm a' w' hex).2 (μ k') ⟨k',C2,hok',rfl,hr2⟩
   omega
  | exit id=>exact ⟨s',C',hr',hq⟩
  | ret=>exact ⟨s',C',hr',hq⟩
  | goto l=>exact hq.elim
  | panic c=>exact hq.elim
  | outgrown=>exact hq.elim
 all_goals first|(cases hc;done)|(obtain ⟨_,_,hc⟩:=hc;cases hc;done)|(split at hc<;>cases hc;done)
def yc7 {G:Cfg} {c:AC} {s s':St} {Q:zN} (hp:Pubs s s') (h:Run G c s' Q):Run G c s Q:=by
 intro hG code hc C a w hr;obtain ⟨C',h'⟩:=hp.rel hG.mok hr;exact h hG code hc C' a w h'
def cutP (s':St):zN
 | .normal,s=>Pubs s s'
 | _,_=>False
def yaK {G:Cfg} {x y:AC} {s:St} {Q:zN} (s':St) (h1:Run G x s (cutP s')) (h2:Run G y s' Q):Run G x s (seqK G y Q):=
 zfO (λe s1 h=>by
  cases e with
  | normal=>exact yc7 h h2
  | exit i=>exact h.elim
  | ret=>exact h.elim) h1
def ya {P:Program} {ts:List (List PV)} {dr:Bool} {K:St->List Ft->Prop} {acc:List Ft} {d:Option Nat} {op:AOp} {args:List AOpd} {gd:Option (Nat × Bool)} {af:List Nat} {r:List RO} {s:St} (q:PV)
  (hc:gOf s gd=some false) (hn:zh P ts dr K r (s.set d (fin gd false (.p q))) (zS dr acc s ⟨d,op,args,gd,af⟩ [])):zh P ts dr K (⟨d,op,args,gd,af⟩::r) s acc:=
 .inl ⟨_,_,.callN hc,hn⟩
def ya9 {s:St} (t:Nat) (v':PV) {pre:Prop} {v:PV} {ks:List Nat} (ht:toPV s.look 4 (s.get t)=some (pre,v,ks)) (hp:pre) (hw:Weak v v'):zd4 s λs1=>s1=(s.wrs (frzs s.look ks)).set (some t) (.p v'):=λX C a w hM hr=>by
 obtain ⟨C',h'⟩:=hr.pub hM t ht hp hw;exact ⟨_,C',rfl,by rw [(z7 _ _ _).1,(z7 _ _ _).2,(zbf _ _).1,(zbf _ _).2];exact h'⟩
instance:Mx prog:=⟨mixed⟩
section
variable {P:Program} {ts:List (List PV)} {dr:Bool} {K:St->List Ft->Prop} {acc:List Ft} {d:Option Nat} {f:Nat} {args:List AOpd} {gd:Option (Nat × Bool)} {af:List Nat} {r:List RO} {s:St} {vs:List PV} {res:PV}
end
def ycd:zf []=0:=rfl
def yaB (x:ByteArray):Pure prog 96 [.s x] (.b (zcA x)):=by
 refine pz func96 f96.eq_1 λhw X hX=>?_
 simp only [wfs,PV.wf,maxLen] at hw
 repeat' first|refine gC ?_ ?_<;>intro hc<;>try contradiction|refine gG ?_|show AK _;intro J Z|refine gJ ?_|omega|exact aT
 .rw [zjr hc];exact .refl _
 refine zi (κ:=Nat) (λi=>⟨[(0,.p (.s x)),(3,.p (.i .i64 i))],[],[],false⟩) (λi=>i<=x.size/\∀ j < i,zfZ j (zmI x j)=true) (λi=>x.size - i) 0 ?_ ?_ ?_
 .exact sR
 .simp
 .intro i hi
  repeat' first|refine gC ?_ ?_<;>intro hc<;>try contradiction|refine gG ?_|show AK _;intro J Z|refine gJ ?_|omega|exact aT
  .rw [zoq (i:=i) (by omega)];exact .refl _
   simp only [zfZ,zuO,zmI];simp;omega
  .refine ⟨i+1,⟨by omega,λj hj=>?_⟩,by omega,by simp⟩
   by_cases e:j=i
   .subst e;simp only [zfZ,zuO,zmI];simp;omega
   .exact hi.2 j (by omega)
  .rw [zlX ‹_› hi (by omega)];exact .refl _
def yZ (n a b:Int):Pure prog 71 [.i .i64 n,.i .i64 a,.i .i64 b] (.i .i64 (rng n a b)):=by
 refine pz func71 f71.eq_1 λhw X hX=>?_
 repeat' first|refine gC ?_ ?_<;>intro hc<;>try contradiction|refine gG ?_|show AK _;intro J Z|refine gJ ?_|omega|exact aT
 .rw [rng,if_pos hc];exact .refl _
 .rw [zdl.2 hc];exact .refl _
def yM (n:Int):Pure prog 70 [.i .i64 n] (.i .i64 (rng n 0 99999)):=by
 refine pz func70 f70.eq_1 λhw X hX=>?_
 have jA:=λu1 u2 u3=>yZ u1 u2 u3;exact gD2
def y8 (p:Per):Pure prog 24 [p.pv] (.i .i64 (zat p)):=by
 refine pz func24 f24.eq_1 λhw X hX=>?_
 repeat' first|refine gC ?_ ?_<;>intro hc<;>try contradiction|refine zp (λ_=>yM _) ?_|refine za (yM _) ?_|refine za (yZ _ _ _) ?_|refine gG ?_|show AK _;intro J Z|refine gJ ?_|omega|exact aT
 .rw [show zat p=3 by simp only [zat,zf,rng];(repeat' split)<;>omega];exact .refl _
 .rw [show zat p=11 by simp only [zat,zf,rng];(repeat' split)<;>omega];exact .refl _
 .rw [show zat p=4 by simp only [zat,zf,rng];(repeat' split)<;>omega];exact .refl _
 .rw [show zat p=rng p.days 1 127 by simp only [zat,zf,rng];(repeat' split)<;>omega];exact .refl _
def yeV (d:Int) (h0:0<=d) (h1:d<=99999):Pure prog 183 [.i .i64 d] (.i .i64 ((d+5) % 7)):=by
 refine pz func183 f183.eq_1 λhw X hX=>?_
 repeat' first|refine gC ?_ ?_<;>intro hc<;>try contradiction|refine gG ?_|show AK _;intro J Z|refine gJ ?_|omega|exact aT
 rw [xb5 (by omega)]
 exact .refl _
def ycy (m w:Int) (h0:0<=m) (h1:m < 128) (h2:0<=w) (h3:w < 7):Pure prog 182 [.i .i64 m,.i .i64 w] (.b (inM m w)):=by
 refine pz func182 f182.eq_1 λhw X hX=>?_
 repeat' first|refine gC ?_ ?_<;>intro hc<;>try contradiction|refine gG ?_|show AK _;intro J Z|refine gJ ?_|omega|exact aT
 refine zi (κ:=Nat) (λi=>⟨[(0,.p (.i .i64 (m / 2 ^ i))),(1,.p (.i .i64 w)),(5,.p (.i .i64 i))],[],[],false⟩) (λi=>i<=w.toNat) (λi=>w.toNat - i) 0 ?_ ?_ ?_
 .exact sS
 .simp
 .intro i hi;have hq:0<=m / 2 ^ i:=xbN h0 (Int.le_of_lt (Int.pow_pos (by decide)))
  have hq2:m / 2 ^ i<=m:=xbx _ h0;have hq3:∀ b,(m / 2 ^ i).tdiv b=(m / 2 ^ i) / b:=λb=>xbz hq
  have hq4:∀ b,(m / 2 ^ i).tmod b=(m / 2 ^ i) % b:=λb=>xb5 hq
  have qe:=aI @hq3 @hq4;repeat' first|refine gC ?_ ?_<;>intro hc<;>try contradiction|refine gG ?_|show AK _;intro J Z|refine gJ ?_|omega|exact aT
  .refine ⟨i+1,by omega,by omega,?_,by simp⟩
   rw [Int.pow_succ,Int.ediv_ediv_of_nonneg (Int.le_of_lt (Int.pow_pos (by decide)))]
  .have e:i=w.toNat:=by omega
   subst e;exact .refl _
def yeW (p:Per) (d:Int) (h0:0<=d) (h1:d<=99999) (h2:0<=p.days) (h3:p.days < 128):Pure prog 112 [p.pv,.i .i64 d] (.b (hasD p d)):=by
 refine pz func112 f112.eq_1 λhw X hX=>?_
 have qe:=@qR;repeat' first|refine gC ?_ ?_<;>intro hc<;>try contradiction|refine zp (λ_=>yeV _ h0 h1) ?_|(show zh _ _ _ _ (⟨_,.call 182,_,_,_⟩::_) _ _;refine zbh (hf:=λhc=>(by first|exact ycy p.days ((d+5) % 7) h2 h3 (by omega) (by omega)|(simp only [qH,zdl] at hc;exact ycy p.days ((d+5) % 7) h2 h3 (by omega) (by omega)))) (hn:=?_))|refine gG ?_|show AK _;intro J Z|refine gJ ?_|omega|exact aT
 all_goals exact .refl _
def ycJ {p:Per} (k:Nat) (h:k < (p.to - p.fro+1).toNat):hasD p (p.fro+k)=inM p.days ((p.fro+k+5) % 7):=by
 simp only [hasD,show p.fro<=p.fro+(k:Int) by omega,show p.fro+(k:Int)<=p.to by omega,decide_true,xbo]
def yaw (p:Per) (k:Nat):List Int:=(List.range k).flatMap λ(k:Nat)=>if inM p.days ((p.fro+k+5) % 7) then [p.fro+k] else []
def ycO (p:Per) (n:Nat):(yaw p n).length<=n:=by
 unfold yaw
 induction n with
 | zero=>simp
 | succ n ih=>rw [zac,xae];split<;>simp only [xaE,xbr]<;>omega
def yaC (p:Per) (h:zat p=0):Pure prog 65 [p.pv] (.sl 1 ((zW p).map (.i .i64))):=by
 have hp:=zaW h;refine pz func65 f65.eq_1 λhw X hX=>?_
 repeat' first|refine gC ?_ ?_<;>intro hc<;>try contradiction|refine gG ?_|show AK _;intro J Z|refine gJ ?_|omega|exact aT
 refine zaO 100 3 1 [(1,.lp 1 0),(3,.row 100 0),(4,.p (.i .i64 p.fro))] [(1,.box [.p (.i .i64 p.fro),.p (.i .i64 p.to),.p (.i .i64 p.days)] false)] ?_ ?_
 .simp only [Own,zaL,zaA,zbr,zax,qS,seval]
 refine zi (κ:=Nat) (λk=>⟨[(1,.lp 1 0),(3,.row 100 (yaw p k).length),(4,.p (.i .i64 (p.fro+k)))],[(1,.box [.p (.i .i64 p.fro),.p (.i .i64 p.to),.p (.i .i64 p.days)] false),(100,.row 3 1 ((yaw p k).map (.i .i64)) false)],[],false⟩) (λk=>k<=(p.to - p.fro+1).toNat) (λk=>(p.to - p.fro+1).toNat - k) 0 ?_ ?_ ?_
 .refine gJ ?_;simp [yaw]
 .simp
 .intro k hk;have hl:=ycO p k;have qe:=@qR;repeat' first|refine gC ?_ ?_<;>intro hc<;>try contradiction|refine za (yeW p (p.fro+k) (by omega) (by omega) (by omega) (by omega)) ?_|refine gG ?_|show AK _;intro J Z|refine gJ ?_|omega|exact aT
  .have e:yaw p (k+1)=yaw p k++[p.fro+(k:Int)]:=by
    rw [ycJ k (by omega)] at hc;simp only [yaw,zac,hc,if_true]
   refine ⟨k+1,by omega,by omega,⟨by rw [e];simp,by simp;omega⟩,by rw [e];simp⟩
  .have e:yaw p (k+1)=yaw p k:=by
    rw [ycJ k (by omega)] at hc;simp only [yaw,zac,hc];simp
   refine ⟨k+1,by omega,by omega,⟨by rw [e],by simp;omega⟩,by rw [e]⟩
  .have e:k=(p.to - p.fro+1).toNat:=by omega
   subst e;exact .refl _
def winK (l:Lim) (k:Nat):List Int:=(List.range k).flatMap λ(n:Nat)=>zM l (l.per.fro+n)
def winN (l:Lim):Nat:=(l.per.to - l.per.fro+1).toNat
def yb (l:Lim):List Int:=winK l (winN l)
def yaW {l:Lim} (h:zaR l=0) {b:Int} (hb:b ∈ yb l):0<=b/\b<=143999999:=by
 have hp:=zaW (zcb h).2.2.2.2.2.2.2.1;obtain ⟨n,hn,hb⟩:=xaC.1 hb;have:=zfr h hb
 omega
def pure81 (s:ByteArray):Pure prog 97 [.s s] (.b (decide (s=s0) || zcA s)):=by
 refine pz func97 f97.eq_1 λhw X hX=>?_
 have jA:=λu1=>yaB u1;exact gD2
def pure33 (n a b:Int):Pure prog 98 [.i .i64 n,.i .i64 a,.i .i64 b] (.b (decide (n < a) || decide (b < n))):=by
 refine pz func98 f98.eq_1 λhw X hX=>?_
 exact gD0
def yP {e:Int} {r:List Int} (h:e=0):zf (e::r)=zf r:=by rw [zf,if_pos h]
def yat {e:Int} {r:List Int} (h:e≠0):zf (e::r)=e:=by rw [zf,if_neg h]
def rng_3 {n a b:Int} (h:n < a\/b < n):rng n a b=3:=by rw [rng,if_pos h]
def ye2 {s:ByteArray} (h:zcA s=true):zaG s=0:=by rw [zaG,if_neg (by simp [h])]
def ye1 {s:ByteArray} (h:zcA s=false):zaG s=8:=by rw [zaG,if_pos h]
def optE_0 {s:ByteArray} (h:s=s0\/zcA s=true):zmF s=0:=by rw [zmF,if_neg];rintro ⟨h1,h2⟩;rcases h with h|h<;>simp_all
def optE_8 {s:ByteArray} (h:¬s=s0/\zcA s=false):zmF s=8:=by rw [zmF,if_pos h]
def ybd {e k:Int} {r:List Int} (h:e=k) (hk:k≠0):zf (e::r)=k:=by rw [yat (by rw [h];exact hk),h]
def ycD {a b c:Int} (h:0<=a/\a<=999/\0<=b/\b<=9/\0<=c/\c<=99):zuK a b c=0:=by rw [zuK];simp only [zf,rng];(repeat' split)<;>omega
def weakI {a b:Int} (h:a=b):Weak (.i .i64 a) (.i .i64 b):=h ▸ .refl _
def ye8 {k:ByteArray} (h:¬k=sA/\¬k=sD->k=sT):zjk k=0:=by rw [zjk,if_neg];rintro ⟨h1,h2,h3⟩;exact h3 (h ⟨h1,h2⟩)
def ydV {k:ByteArray} (h:(¬k=sA/\¬k=sD)/\¬k=sT):zjk k=13:=by rw [zjk,if_pos ⟨h.1.1,h.1.2,h.2⟩]
def ycL {k:ByteArray} (h:¬k=sA->k=sD):zcC k=0:=by rw [zcC,if_neg];rintro ⟨h1,h2⟩;exact h2 (h h1)
def ycc {k:ByteArray} (h:¬k=sA/\¬k=sD):zcC k=13:=by rw [zcC,if_pos h]
def ycx (l:Lim):Pure prog 43 [l.pv] (.i .i64 (zaR l)):=by
 refine pz func43 f43.eq_1 λhw X hX=>?_
 repeat' first|refine gC ?_ ?_<;>intro hc<;>try contradiction|refine za (yaB _) ?_|refine za (pure81 _) ?_|refine zp (λ_=>pure33 _ _ _) ?_|refine za (y8 l.per) ?_|refine gG ?_|show AK _;intro J Z|refine gJ ?_|omega|exact aT
 all_goals (refine weakI (Eq.symm ?_);rw [zaR];(repeat refine Eq.trans (yP (by first|exact ye2 (by assumption)|exact ye8 (by assumption)|exact ycL (by assumption)|exact optE_0 (by assumption)|exact zdl.2 (by omega)|exact ycD (by omega)|exact if_neg (by omega)|assumption)) ?_);first|rfl|exact ybd (by first|exact ye1 (by assumption)|exact ydV (by assumption)|exact ycc (by assumption)|exact optE_8 (by assumption)|exact rng_3 (by omega)|exact if_pos (by omega)|rfl) (by first|decide|assumption)|(simp only [zf,rng,zuK];(repeat' split)<;>omega))
def pure72 (l:List Lim) (n:ByteArray):Pure prog 44 [.sl 11 (l.map Lim.pv),.s n] (.i .i64 (atL n (l.map Lim.name))):=by
 refine pz func44 f44.eq_1 λhw X hX=>?_
 simp only [wfs,PV.wf,xaf,maxLen] at hw
 repeat' first|refine gC ?_ ?_<;>intro hc<;>try contradiction|refine gG ?_|show AK _;intro J Z|refine gJ ?_|omega|exact aT
 refine zi (κ:=Nat) (λi=>⟨[(0,.p (.sl 11 (l.map Lim.pv))),(1,.p (.s n)),(5,.p (.i .i64 i))],[],[],false⟩) (λi=>i<=l.length/\∀ x ∈ (l.map Lim.name).take i,x≠n) (λi=>l.length - i) 0 ?_ ?_ ?_
 .exact sR
 .simp
 .intro i hi
  repeat first|refine gG ?_|show AK _;intro J Z|refine gJ ?_|omega|exact aT
  (refine gC ?_ ?_<;>intro hc<;>try contradiction)
  .obtain ⟨x,hx⟩:=zm (i:=i) (l:=l) (by omega)
   have qe:=@hx;repeat' first|refine gC ?_ ?_<;>intro hc<;>try contradiction|refine gG ?_|show AK _;intro J Z|refine gJ ?_|omega|exact aT
   .rw [zjU hi.2 (by simp [hx,hc])];exact .refl _
   .refine ⟨i+1,⟨by omega,λy hy=>?_⟩,by omega,by simp⟩
    rw [<-xbk,zdg _ hx] at hy
    rcases xaD.1 hy with h|h
    .exact hi.2 y (by rw [<-xbk];exact h)
    .simp at h;subst h;exact hc
  .repeat' first|refine gC ?_ ?_<;>intro hc<;>try contradiction|refine gG ?_|show AK _;intro J Z|refine gJ ?_|omega|exact aT
   have e:i=l.length:=by omega
   subst e;rw [zjV (λy hy=>hi.2 y (by rw [xag (by simp)];exact hy))];exact .refl _
def pure23 (l:List Lim):Pure prog 13 [.sl 11 (l.map Lim.pv)] (.i .i64 (zZ l)):=by
 refine pz func13 f13.eq_1 λhw X hX=>?_
 simp only [wfs,PV.wf,xaf,maxLen] at hw
 repeat' first|refine gC ?_ ?_<;>intro hc<;>try contradiction|refine gG ?_|show AK _;intro J Z|refine gJ ?_|omega|exact aT
 .rw [zZ,if_pos (by omega)];exact .refl _
 refine zi (κ:=Nat) (λi=>⟨[(0,.p (.sl 11 (l.map Lim.pv))),(3,.p (.i .i64 i))],[],[],false⟩) (λi=>i<=l.length/\∀ x ∈ (zg1 l).take i,x=0) (λi=>l.length - i) 0 ?_ ?_ ?_
 .exact sR
 .simp
 .intro i hi
  repeat first|refine gG ?_|show AK _;intro J Z|refine gJ ?_|omega|exact aT
  (refine gC ?_ ?_<;>intro hc<;>try contradiction)
  .obtain ⟨x,hx⟩:=zm (i:=i) (l:=l) (by omega)
   have key:∀ e:Int,zog l i x=e->e≠0->zZ l=e:=λe he h0=>by subst he;unfold zZ;rw [if_neg (by omega)];exact zT hi.2 (zI hx) h0
   have qe:=aI qR (aI @hx @zel);repeat' first|refine gC ?_ ?_<;>intro hc<;>try contradiction|refine za (ycx x) ?_|refine za (pure72 (l.take i) x.name) ?_|refine gG ?_|show AK _;intro J Z|refine gJ ?_|omega|exact aT
   .rw [key (zaR x) (by rw [zog,yat hc]) hc];exact .refl _
   .rw [key 9 (by rw [zog,yP (by assumption),ybd (if_pos hc) (by decide)]) (by decide)];exact .refl _
   .exact ⟨i+1,⟨by omega,zaB hi.2 (zI hx) (by rw [zog,yP (by assumption),yP (if_neg (by omega)),ycd])⟩,by omega,by simp⟩
  .repeat' first|refine gC ?_ ?_<;>intro hc<;>try contradiction|refine gG ?_|show AK _;intro J Z|refine gJ ?_|omega|exact aT
   have e:i=(zg1 l).length:=by simp [zg1];omega
   subst e;rw [zZ,if_neg (by omega),z4 hi.2];exact .refl _
def fewB (p:Per) (n:Int):Bool:=!decide (zat p=0) || decide (p.to - p.fro < n)
def yek (p:Per) (n:Int):Pure prog 63 [p.pv,.i .i64 n] (.b (fewB p n)):=by
 refine pz func63 f63.eq_1 λhw X hX=>?_
 by_cases h:zat p=0
 .have hp:=zaW h;have h':=eq_true h;have qe:=@h';repeat' first|refine gC ?_ ?_<;>intro hc<;>try contradiction|refine za (y8 p) ?_|refine gG ?_|show AK _;intro J Z|refine gJ ?_|omega|exact aT
  simp only [fewB,h',decide_true,xam,xcf];exact .refl _
 .have h':=eq_false h;have qe:=@h';repeat' first|refine gC ?_ ?_<;>intro hc<;>try contradiction|refine za (y8 p) ?_|refine gG ?_|show AK _;intro J Z|refine gJ ?_|omega|exact aT
  simp only [fewB,h',decide_false,xal,xcE];exact .refl _
def pure76 (l:Lim) (h:zaR l=0):Pure prog 64 [l.pv] (.i .i64 (zmy l)):=by
 have hl:=zcb h;have hq1:(l.fro+l.step - 1).tdiv l.step=l.from_:=xbz (by omega)
 have hq2:l.to.tdiv l.step=l.to / l.step:=xbz (by omega)
 have hb1:0<=l.from_:=xbN (by omega) (by omega)
 have hb2:l.from_<=l.fro+l.step - 1:=xbx _ (by omega)
 have hb3:0<=l.to / l.step:=xbN (by omega) (by omega)
 have hb4:l.to / l.step<=l.to:=xbx _ (by omega)
 have hN:l.to / l.step - l.from_+1=(zmy l:Int):=by
  unfold zmy;have:(l.fro - 1) / l.step<=l.to / l.step:=Int.ediv_le_ediv (by omega) (by omega)
  have e:l.from_=(l.fro - 1) / l.step+1:=by unfold Lim.from_;rw [show l.fro+l.step - 1=l.fro - 1+1*l.step by omega,Int.add_mul_ediv_right _ _ (by omega)]
  omega
 refine pz func64 f64.eq_1 λhw X hX=>?_
 have qe:=aI @hq1 @hq2;repeat' first|refine gC ?_ ?_<;>intro hc<;>try contradiction|refine gG ?_|show AK _;intro J Z|refine gJ ?_|omega|exact aT
 rw [hN];exact .refl _
def yaf {α:Type} {l:List α} {p:α->Bool} {i:Nat} {x:α} (hx:l[i]?=some x) (hp:p x=false):l.all p=false:=by
 cases h:l.all p
 .rfl
 .rw [xaB] at h;rw [h x (xad hx)] at hp;exact hp
def yH {α:Type} {l:List α} {p:α->Bool} {i:Nat} {x:α} (h:∀ y ∈ l.take i,p y=true) (hx:l[i]?=some x) (hp:p x=true):∀ y ∈ l.take (i+1),p y=true:=by
 intro y hy;rw [xaK,hx] at hy
 rcases xaD.1 hy with hy|hy
 .exact h y hy
 .simp at hy;subst hy;exact hp
def y5 {α:Type} {l:List α} {p:α->Bool} (h:∀ y ∈ l.take l.length,p y=true):l.all p=true:=by
 rw [xas] at h;rw [xaB];exact h
def allI (L:List Int):L.all ((λx=>x.cells.all PV.one) ∘ PV.i IntKind.i64)=true:=by rw [xaB];intro x _;rfl
def yem (l:List Int) (x:Int):Pure prog 111 [.sl 1 (l.map (.i .i64)),.i .i64 x] (.b (decide (x ∈ l))):=by
 refine pz func111 f111.eq_1 λhw X hX=>?_
 simp only [wfs,PV.wf,xaf,maxLen] at hw
 repeat' first|refine gC ?_ ?_<;>intro hc<;>try contradiction|refine gG ?_|show AK _;intro J Z|refine gJ ?_|omega|exact aT
 refine zi (κ:=Nat) (λi=>⟨[(0,.p (.sl 1 (l.map (.i .i64)))),(1,.p (.i .i64 x)),(5,.p (.i .i64 i))],[],[],false⟩) (λi=>i<=l.length/\∀ y ∈ l.take i,¬y=x) (λi=>l.length - i) 0 ?_ ?_ ?_
 .exact sR
 .simp
 .intro i hi
  repeat first|refine gG ?_|show AK _;intro J Z|refine gJ ?_|omega|exact aT
  (refine gC ?_ ?_<;>intro hc<;>try contradiction)
  .obtain ⟨y,hy⟩:=zm (i:=i) (l:=l) (by omega)
   have qe:=@hy;repeat' first|refine gC ?_ ?_<;>intro hc<;>try contradiction|refine gG ?_|show AK _;intro J Z|refine gJ ?_|omega|exact aT
   .subst hc;rw [decide_eq_true (xad hy)];exact .refl _
   .refine ⟨i+1,⟨by omega,λz hz=>?_⟩,by omega,by simp⟩
    rw [xaK,hy] at hz
    rcases xaD.1 hz with h|h
    .exact hi.2 z h
    .simp at h;subst h;exact hc
  .repeat' first|refine gC ?_ ?_<;>intro hc<;>try contradiction|refine gG ?_|show AK _;intro J Z|refine gJ ?_|omega|exact aT
   have e:i=l.length:=by omega
   subst e;rw [decide_eq_false (λh=>hi.2 x (by rw [xas];exact h) rfl)];exact .refl _
def ycl (l:Lim) (d:Int) (k:Nat):List Int:=(List.range k).flatMap λ(j:Nat)=>if (l.fro+j) % l.step=0 then [1440*d+(l.fro+j)] else []
def yao (l:Lim) (d:Int) (k:Nat):ycl l d (k+1)=ycl l d k++if (l.fro+k) % l.step=0 then [1440*d+(l.fro+k)] else []:=by rw [ycl,zac,<-ycl]
def yda (l:Lim) (d:Int) (k:Nat):(ycl l d k).length<=k:=by
 induction k with
 | zero=>simp [ycl]
 | succ k ih=>rw [yao,xae];split<;>simp<;>omega
def yfp {x s:Int} (hs:0 < s):(x+s - 1) / s=if x % s=0 then x / s else x / s+1:=by
 have h1:=Int.mul_ediv_add_emod x s;have h2:=Int.emod_nonneg x (show s≠0 by omega)
 have h3:=Int.emod_lt_of_pos x hs
 split
 .rename_i h;rw [show x+s - 1=(s - 1)+s*(x / s) by omega,Int.add_mul_ediv_left _ _ (by omega),Int.ediv_eq_zero_of_lt (by omega) (by omega)];omega
 .rename_i h;rw [show x+s - 1=(x % s - 1)+s*(x / s+1) by rw [Int.mul_add];omega,Int.add_mul_ediv_left _ _ (by omega),Int.ediv_eq_zero_of_lt (by omega) (by omega)];omega
def yeR {l:Lim} (h:0 < l.step) (d:Int) (k:Nat):ycl l d k=(List.range ((l.fro+k+l.step - 1) / l.step - l.from_).toNat).map (zyC l d)/\l.from_<=(l.fro+k+l.step - 1) / l.step:=by
 induction k with
 | zero=>simp [ycl,Lim.from_]
 | succ k ih=>
  obtain ⟨ih,hge⟩:=ih;have hn:(l.fro+(k+1:Nat)+l.step - 1) / l.step=(l.fro+k) / l.step+1:=by
   rw [show l.fro+((k+1:Nat):Int)+l.step - 1=l.fro+k+1*l.step by omega,Int.add_mul_ediv_right _ _ (by omega)]
  rw [hn,yao,ih];have hc:=yfp (x:=l.fro+k) h;rw [hc] at hge ⊢
  by_cases hm:(l.fro+k) % l.step=0
  .rw [if_pos hm] at hge;rw [if_pos hm,if_pos hm];have e:((l.fro+k) / l.step+1 - l.from_).toNat=((l.fro+k) / l.step - l.from_).toNat+1:=by omega
   refine ⟨?_,by omega⟩
   rw [e,zjf,zyC,xbT (by omega),show l.from_+((l.fro+k) / l.step - l.from_)=(l.fro+k) / l.step by omega]
   have:=Int.mul_ediv_add_emod (l.fro+k) l.step;rw [show l.step*((l.fro+k) / l.step)=l.fro+k by omega]
  .rw [if_neg hm] at hge;rw [if_neg hm,if_neg hm];exact ⟨by simp,hge⟩
def yeQ {l:Lim} (h:zaR l=0) (d:Int):ycl l d (l.to - l.fro+1).toNat=zso l d (zmy l):=by
 have hl:=zcb h;rw [(yeR (l:=l) (by omega) d _).1,zso,zmy]
 have e:(l.fro+((l.to - l.fro+1).toNat:Nat)+l.step - 1) / l.step=l.to / l.step+1:=by
  rw [show l.fro+(((l.to - l.fro+1).toNat:Nat):Int)+l.step - 1=l.to+1*l.step by omega,Int.add_mul_ediv_right _ _ (by omega)]
 rw [e,show (l.to / l.step+1 - l.from_).toNat=(max 0 (l.to / l.step - l.from_+1)).toNat by omega]
def pure36 (l:Lim) (d:Int) (h:zaR l=0) (h0:0<=d) (h1:d<=99999):Pure prog 283 [l.pv,.i .i64 d] (.sl 1 ((zso l d (zmy l)).map (.i .i64))):=by
 have hl:=zcb h;refine pz func283 f283.eq_1 λhw X hX=>?_
 repeat' first|refine gC ?_ ?_<;>intro hc<;>try contradiction|refine gG ?_|show AK _;intro J Z|refine gJ ?_|omega|exact aT
 refine zaO 100 3 1 [(1,.p (.i .i64 d)),(2,.lp 2 0),(5,.row 100 0),(6,.p (.i .i64 l.fro))] [(2,.box (l.cells.map .p) false)] ?_ ?_
 .simp only [Own,zaL,zaA,zbr,zax,qS,seval]
 refine zi (κ:=Nat) (λk=>⟨[(1,.p (.i .i64 d)),(2,.lp 2 0),(5,.row 100 (ycl l d k).length),(6,.p (.i .i64 (l.fro+k)))],[(2,.box (l.cells.map .p) false),(100,.row 3 1 ((ycl l d k).map (.i .i64)) false)],[],false⟩) (λk=>k<=(l.to - l.fro+1).toNat) (λk=>(l.to - l.fro+1).toNat - k) 0 ?_ ?_ ?_
 .refine gJ ?_;simp [ycl]
 .simp
 .intro k hk;have hll:=yda l d k;have hq:(l.fro+k).tmod l.step=(l.fro+k) % l.step:=xb5 (by omega)
  have hnx:=yao l d k;have qe:=aI qR @hq;repeat' first|refine gC ?_ ?_<;>intro hc<;>try contradiction|refine gG ?_|show AK _;intro J Z|refine gJ ?_|omega|exact aT
  .rw [if_pos hc] at hnx;exact ⟨k+1,by omega,by omega,⟨by rw [hnx];simp,by simp;omega⟩,by rw [hnx];simp⟩
  .rw [if_neg hc,xat] at hnx;exact ⟨k+1,by omega,by omega,⟨by rw [hnx],by simp;omega⟩,by rw [hnx]⟩
  .have e:k=(l.to - l.fro+1).toNat:=by omega
   subst e;rw [yeQ h];exact .refl _
def ya8 {p:Per} (h:zat p=0) (d:Int):zs0 p d=decide (d ∈ zW p):=by
 have hp:=zaW h
 by_cases hm:d ∈ zW p
 .have:=zig hm;rw [decide_eq_true hm];have he:zsZ p d=0:=by rw [zsZ];simp only [zq,zdl];exact ⟨by assumption,⟨by omega,by omega⟩,rfl⟩
  simp [zs0,he,hasD,this]
 .rw [decide_eq_false hm];cases hb:zs0 p d
  .rfl
  .exfalso;apply hm
   simp only [zs0,hasD,xap,decide_eq_true_eq] at hb;refine xaC.2 ⟨(d - p.fro).toNat,xaV.2 (by omega),?_⟩
   rw [xbT (by omega),show p.fro+(d - p.fro)=d by omega,if_pos hb.2.2]
   simp
theorem yV {α β:Type} {f g:α->List β}:∀ {l:List α},(∀ x ∈ l,f x=g x)->l.flatMap f=l.flatMap g
 | [],_=>rfl
 | x::r,h=>by rw [xaz,xaz,h x (by simp),yV λy hy=>h y (by simp [hy])]
def ybw {l:Lim} (h:zaR l=0) (d:Int):zM l d=if d ∈ zW l.per then zso l d (zmy l) else []:=by
 have hl:=zcb h;have hb:=ya8 hl.2.2.2.2.2.2.2.1 d
 by_cases hm:d ∈ zW l.per
 .have hd:=zig hm;rw [zM,if_pos hm,if_pos];rw [decide_eq_true hm] at hb;simp only [zmx,hb,xam,Bool.or_false,xa6,xbd,decide_eq_false_iff_not];omega
 .rw [zM,if_neg hm,if_neg];rw [decide_eq_false hm] at hb;simp [zmx,hb]
def yb4 {l:Lim} (h:zaR l=0):yb l=(zW l.per).flatMap λd=>zso l d (zmy l):=by
 have hl:=zcb h;have hp:=hl.2.2.2.2.2.2.2.1;unfold yb winK winN zW;rw [List.flatMap_assoc];refine yV λk hk=>?_
 have hk:=xaV.1 hk;rw [ybw h];have hb:=ya8 hp (l.per.fro+k);have hpp:=zaW hp;have he:zsZ l.per (l.per.fro+k)=0:=by rw [zsZ];simp only [zq,zdl];exact ⟨by assumption,⟨by omega,by omega⟩,rfl⟩
 have hi:zs0 l.per (l.per.fro+k)=inM l.per.days ((l.per.fro+k+5) % 7):=by
  simp only [zs0,he,hasD,decide_true,xbo,show l.per.fro<=l.per.fro+(k:Int) by omega,show l.per.fro+(k:Int)<=l.per.to by omega]
 rw [hi] at hb;rw [hb];simp only [decide_eq_true_eq]
 split<;>simp
def pure39 (l:Lim) (h:zaR l=0):Pure prog 268 [l.pv] (.sl 1 ((yb l).map (.i .i64))):=by
 have hl:=zcb h;have hpp:=zaW hl.2.2.2.2.2.2.2.1;have hdl:=zcE l.per;refine pz func268 f268.eq_1 λhw X hX=>?_
 repeat' first|refine gC ?_ ?_<;>intro hc<;>try contradiction|refine za (yaC l.per hl.2.2.2.2.2.2.2.1) ?_|refine gG ?_|show AK _;intro J Z|refine gJ ?_|omega|exact aT
 refine zaO 100 3 1 [(1,.lp 1 0),(3,.p (.sl 1 ((zW l.per).map (.i .i64)))),(4,.row 100 0),(5,.p (.i .i64 0))] [(1,.box (l.cells.map .p) false)] ?_ ?_
 .simp only [Own,zaL,zaA,zbr,zax,qS,seval]
 refine zi (κ:=Nat) (λk=>⟨[(1,.lp 1 0),(3,.p (.sl 1 ((zW l.per).map (.i .i64)))),(4,.row 100 (((zW l.per).take k).flatMap λd=>zso l d (zmy l)).length),(5,.p (.i .i64 k))],[(1,.box (l.cells.map .p) false),(100,.row 3 1 ((((zW l.per).take k).flatMap λd=>zso l d (zmy l)).map (.i .i64)) false)],[],false⟩) (λk=>k<=(zW l.per).length) (λk=>(zW l.per).length - k) 0 ?_ ?_ ?_
 .exact sS
 .simp
 .intro k hk
  repeat first|refine gG ?_|show AK _;intro J Z|refine gJ ?_|omega|exact aT
  (refine gC ?_ ?_<;>intro hc<;>try contradiction)
  .obtain ⟨d,hd⟩:=zm (i:=k) (l:=zW l.per) (by omega)
   have hdm:=zig (xad hd);have hnx:=zfe (λd=>zso l d (zmy l)) hd
   have hbn:zmy l<=1440:=by
    have h1:0<=l.from_:=xbN (by omega) (by omega)
    have h2:l.to / l.step<=l.to:=xbx _ (by omega)
    unfold zmy;omega
   have hfl:(((zW l.per).take k).flatMap λd=>zso l d (zmy l)).length<=((zW l.per).take k).length*1440:=by
    exact zcD λd _=>by simp only [zso,xaf,xbH];exact hbn
   have hbl:(zso l d (zmy l)).length<=1440:=by simp only [zso,xaf,xbH];exact hbn
   simp only [xai] at hfl;have qe:=aI qR (aI @hd @allI);repeat' first|refine gC ?_ ?_<;>intro hc<;>try contradiction|refine za (pure36 l d h (by omega) (by omega)) ?_|refine gG ?_|show AK _;intro J Z|refine gJ ?_|omega|exact aT
   exact ⟨k+1,by omega,by omega,⟨by rw [hnx,xae],by simp⟩,by rw [hnx,xaO]⟩
  .repeat' first|refine gC ?_ ?_<;>intro hc<;>try contradiction|refine gG ?_|show AK _;intro J Z|refine gJ ?_|omega|exact aT
   have e:k=(zW l.per).length:=by omega
   subst e;rw [xas,yb4 h];exact .refl _
def yej (l:Lim) (m:Mov):Pure prog 267 [l.pv,m.pv] (.b (zad l m.kind m.term)):=by
 refine pz func267 f267.eq_1 λhw X hX=>?_
 exact gD0
def ycw (l:Lim) (b x:Int) (h0:0<=b) (h1:b<=1000000000) (h2:1<=l.len) (h3:l.len<=1440):Pure prog 269 [l.pv,.i .i64 b,.i .i64 x] (.b (decide (b<=x) && decide (x < b+l.len))):=by
 refine pz func269 f269.eq_1 λhw X hX=>?_
 exact gD0
def inW (l:Lim) (b:Int) (x:Mov):Bool:=zad l x.kind x.term && (decide (b<=x.moment) && decide (x.moment < b+l.len))
theorem yaE {l:Lim} (h:0<=l.len) (b:Int):∀ m:List Mov,zbq l m b=((m.filter (inW l b)).length:Int)
 | []=>by simp [zbq,cntW,ofL,ltN]
 | x::r=>by
  have ih:=yaE h b r;simp only [zbq,cntW,ofL,xct,inW] at ih ⊢
  by_cases hc:zad l x.kind x.term=true
  .simp only [hc,if_true,xak,ltN,xct,xbo,decide_eq_true_eq,xap] at ih ⊢
   (repeat' split)<;>(try simp only [xaE])<;>omega
  .simp only [Bool.not_eq_true] at hc;simp only [hc,xaX,if_false,xbs];exact ih
def pure37 (l:Lim) (m:List Mov) (b:Int) (h:zaR l=0) (hm:m.length<=1000000) (h0:0<=b) (h1:b<=1000000000):Pure prog 270 [l.pv,.sl 7 (m.map Mov.pv),.i .i64 b] (.i .i64 (zbq l m b)):=by
 have hl:=zcb h;rw [yaE (by omega)]
 refine pz func270 f270.eq_1 λhw X hX=>?_
 repeat' first|refine gC ?_ ?_<;>intro hc<;>try contradiction|refine gG ?_|show AK _;intro J Z|refine gJ ?_|omega|exact aT
 refine zi (κ:=Nat) (λk=>⟨[(1,.p (.sl 7 (m.map Mov.pv))),(2,.p (.i .i64 b)),(3,.lp 3 0),(7,.p (.i .i64 ((m.take k).filter (inW l b)).length)),(8,.p (.i .i64 k))],[(3,.box (l.cells.map .p) false)],[],false⟩) (λk=>k<=m.length) (λk=>m.length - k) 0 ?_ ?_ ?_
 .exact sS
 .simp
 .intro k hk;have hfl:=zjB (p:=inW l b) (l:=m) (k:=k)
  repeat first|refine gG ?_|show AK _;intro J Z|refine gJ ?_|omega|exact aT
  (refine gC ?_ ?_<;>intro hc<;>try contradiction)
  .obtain ⟨x,hx⟩:=zm (i:=k) (l:=m) (by omega)
   have hnx:=zfg (p:=inW l b) hx;have qe:=aI qR @hx;repeat' first|refine gC ?_ ?_<;>intro hc<;>try contradiction|refine za (yej l x) ?_|(show zh _ _ _ _ (⟨_,.call 269,_,_,_⟩::_) _ _;refine zbh (hf:=λhc=>(by first|exact ycw l b x.moment (by omega) (by omega) (by omega) (by omega)|(simp only [qH,zdl] at hc;exact ycw l b x.moment (by omega) (by omega) (by omega) (by omega)))) (hn:=?_))|refine gG ?_|show AK _;intro J Z|refine gJ ?_|omega|exact aT
   .have hi:inW l b x=true:=by simp only [inW,xap,decide_eq_true_eq];exact hc
    rw [hi,if_pos rfl] at hnx;exact ⟨k+1,by omega,by omega,by rw [hnx];simp,by simp⟩
   .have hi:inW l b x=false:=by
     cases hh:inW l b x
     .rfl
     .simp only [inW,xap,decide_eq_true_eq] at hh;have:=hc hh.1 hh.2.1
      omega
    rw [hi] at hnx;exact ⟨k+1,by omega,by omega,by rw [hnx];simp,by simp⟩
  .repeat' first|refine gC ?_ ?_<;>intro hc<;>try contradiction|refine gG ?_|show AK _;intro J Z|refine gJ ?_|omega|exact aT
   have e:k=m.length:=by omega
   subst e;rw [xas];exact .refl _
def yan {l:Lim} (h:zaR l=0):(yb l).length<=577440:=by
 have hp:=zaW (zcb h).2.2.2.2.2.2.2.1;have h1:(yb l).length<=(List.range (winN l)).length*1440:=zcD λk _=>zfs h _
 simp only [xbH] at h1;unfold winN at h1
 omega
def badLim (l:Lim):Bool:=((decide ((40:Int) < l.name.size) || decide ((40:Int) < l.kind.size)) || decide ((40:Int) < l.term.size)) || !fewB l.per 24
def yb1 {x:Lim} (h:(((40:Int) < x.name.size\/(40:Int) < x.kind.size)\/(40:Int) < x.term.size)\/fewB x.per 24=false):badLim x=true:=by
 simp only [badLim,xa3,decide_eq_true_eq,xa6];exact h
def yb2 {x:Lim} (h:(((x.name.size:Int)<=40/\(x.kind.size:Int)<=40)/\(x.term.size:Int)<=40)/\fewB x.per 24=true):badLim x=false:=by
 simp only [badLim,xbd,decide_eq_false_iff_not,xb7,Int.not_lt];exact h
def ye6 (x:Lim):Int:=if zaR x=0 then (zmy x:Int)*(zW x.per).length else 0
def yci (l:List Lim) (k:Nat):Int:=(l.take k).foldl (λa x=>a+ye6 x) 0
def longL (l:List Lim) (n:Int):Bool:=(decide (n < l.length) && decide ((l.length:Int)<=32)) || decide (34 < (l.length:Int))
def yad (l:List Lim) (n:Int):Bool:=!longL l n && ((l.all λx=>!badLim x) && decide (yci l l.length<=400))
def yaX {l:List Lim} {k:Nat} {x:Lim} (h:l[k]?=some x):yci l (k+1)=yci l k+ye6 x:=by
 rw [yci,xaK,h,xa2];rfl
def ycX {l:Lim} (h:zaR l=0):zmy l<=1440:=by
 have hl:=zcb h;have h1:0<=l.from_:=xbN (by omega) (by omega)
 have h2:l.to / l.step<=l.to:=xbx _ (by omega)
 unfold zmy;omega
def ycE (x:Lim):0<=ye6 x/\ye6 x<=577440:=by
 unfold ye6
 split
 .rename_i h;have h1:=ycX h;have hp:=zaW (zcb h).2.2.2.2.2.2.2.1;have h2:=zcE x.per;have h3:(zW x.per).length<=401:=by omega
  have h4:zmy x*(zW x.per).length<=1440*401:=Nat.mul_le_mul h1 h3
  omega
 .omega
def yeI (l:List Lim) (k:Nat):0<=yci l k/\yci l k<=k*577440:=by
 induction k with
 | zero=>simp [yci]
 | succ k ih=>
  by_cases hk:k < l.length
  .rw [yaX (xab hk)];have:=ycE l[k]
   omega
  .have:yci l (k+1)=yci l k:=by rw [yci,yci,xag (by omega),xag (by omega)]
   omega
def pure15 (l:List Lim) (n:Int):Pure prog 18 [.sl 11 (l.map Lim.pv),.i .i64 n] (.b (yad l n)):=by
 refine pz func18 f18.eq_1 λhw X hX=>?_
 simp only [wfs,PV.wf,xaf,maxLen] at hw
 repeat' first|refine gC ?_ ?_<;>intro hc<;>try contradiction|refine gG ?_|show AK _;intro J Z|refine gJ ?_|omega|exact aT
 .have:longL l n=true:=by simpa [longL] using hc
  rw [yad,this];exact .refl _
 have hsh:longL l n=false:=by simpa [longL] using hc
 have h34:l.length<=34:=by omega
 refine zi (κ:=Nat) (λi=>⟨[(0,.p (.sl 11 (l.map Lim.pv))),(5,.p (.i .i64 (yci l i))),(6,.p (.i .i64 i))],[],[],false⟩) (λi=>i<=l.length/\∀ x ∈ l.take i,(!badLim x)=true) (λi=>l.length - i) 0 ?_ ?_ ?_
 .simp only [qS,Nat.reduceAdd,Nat.reduceMul,Nat.reduceEqDiff,Nat.reduceLeDiff,reduceIte,reduceCtorEq,Nat.reduceBEq,Nat.reduceLT]<;>exact ⟨rfl,rfl⟩
 .simp
 .intro i hi;have hsb:=yeI l i
  repeat first|refine gG ?_|show AK _;intro J Z|refine gJ ?_|omega|exact aT
  (refine gC ?_ ?_<;>intro hc<;>try contradiction)
  .obtain ⟨x,hx⟩:=zm (i:=i) (l:=l) (by omega)
   have hsn:=yaX hx;have hlb:=ycE x
   by_cases h0:zaR x=0
   .have h0':=eq_true h0;have hlx:=zcb h0;have hbn:=ycX h0;have hdn:=zcE x.per;have hpp:=zaW hlx.2.2.2.2.2.2.2.1;rw [ye6,if_pos h0] at hsn hlb;have qe:=aI qR (aI @hx @h0');repeat' first|refine gC ?_ ?_<;>intro hc<;>try contradiction|refine za (ycx x) ?_|refine za (pure76 x h0) ?_|refine za (yaC x.per hlx.2.2.2.2.2.2.2.1) ?_|refine zp (λ_=>yek x.per 24) ?_|refine gG ?_|show AK _;intro J Z|refine gJ ?_|omega|exact aT
    .rw [yad,hsh,yaf hx (by rw [yb1 hc];rfl)];exact .refl _
    .exact ⟨i+1,⟨by omega,λy hy=>by simpa using yH (p:=λx=>!badLim x) (λy hy=>by simpa using hi.2 y hy) hx (by rw [yb2 (by assumption)];rfl) y hy⟩,by omega,by rw [hsn],by simp⟩
   .have h0':=eq_false h0;rw [ye6,if_neg h0] at hsn hlb;have qe:=aI qR (aI @hx @h0');repeat' first|refine gC ?_ ?_<;>intro hc<;>try contradiction|refine za (ycx x) ?_|refine zp (λ_=>yek x.per 24) ?_|refine gG ?_|show AK _;intro J Z|refine gJ ?_|omega|exact aT
    .rw [yad,hsh,yaf hx (by rw [yb1 hc];rfl)];exact .refl _
    .exact ⟨i+1,⟨by omega,λy hy=>by simpa using yH (p:=λx=>!badLim x) (λy hy=>by simpa using hi.2 y hy) hx (by rw [yb2 (by assumption)];rfl) y hy⟩,by omega,by rw [hsn,Int.add_zero],by simp⟩
  .repeat' first|refine gC ?_ ?_<;>intro hc<;>try contradiction|refine gG ?_|show AK _;intro J Z|refine gJ ?_|omega|exact aT
   have e:i=l.length:=by omega
   subst e;rw [yad,hsh,y5 hi.2];exact .refl _
def yb7 {ls:List Lim} {W:List Win} {k:Nat} {w:Win} (h:W[k]?=some w):roomK ls (W.take (k+1))=zbZ ls (roomK ls (W.take k)) w:=by
 rw [roomK,xaK,h,xa2];rfl
def ycP {l:Lim} {m:List Mov} (h2:zae m=0) (b:Int):-30000<=zbq l m b/\zbq l m b<=30000:=by
 have hm:=zaQ h2;have h1:=zuF (l:=l) (m:=m);have h3:=zsX (ofL l m) b;have h4:=zsX (ofL l m) (b+l.len);unfold zbq cntW
 omega
def yen (r:Req) (h:zdB r=0):Pure prog 179 [r.pv] (.sl 7 ((zrw r).map Mov.pv)):=by
 have hr:=zeC h;have hp:=zaW hr.1;have hdl:=zcE r.per;refine pz func179 f179.eq_1 λhw X hX=>?_
 have qe:=@qR;repeat' first|refine gC ?_ ?_<;>intro hc<;>try contradiction|refine za (yaC r.per hr.1) ?_|refine gG ?_|show AK _;intro J Z|refine gJ ?_|omega|exact aT
 refine zaO 100 140 7 [(1,.lp 1 0),(3,.p (.sl 1 ((zW r.per).map (.i .i64)))),(4,.row 100 0),(5,.p (.i .i64 0))] [(1,.box ([.s r.name,.s r.carrier,.s r.kind,.s r.term,.s r.partner,.s r.link,.i .i64 r.per.fro,.i .i64 r.per.to,.i .i64 r.per.days,.i .i64 r.minute,.i .i64 r.seats,.i .i64 r.size,.i .i64 r.noise].map .p) false)] ?_ ?_
 .simp only [Own,zaL,zaA,zbr,zax,qS,seval]
 refine zi (κ:=Nat) (λk=>⟨[(1,.lp 1 0),(3,.p (.sl 1 ((zW r.per).map (.i .i64)))),(4,.row 100 ((zW r.per).take k).length),(5,.p (.i .i64 k))],[(1,.box ([.s r.name,.s r.carrier,.s r.kind,.s r.term,.s r.partner,.s r.link,.i .i64 r.per.fro,.i .i64 r.per.to,.i .i64 r.per.days,.i .i64 r.minute,.i .i64 r.seats,.i .i64 r.size,.i .i64 r.noise].map .p) false),(100,.row 140 7 ((((zW r.per).take k).map (zeh r)).map Mov.pv) false)],[],false⟩) (λk=>k<=(zW r.per).length) (λk=>(zW r.per).length - k) 0 ?_ ?_ ?_
 .exact sS
 .simp
 .intro k hk
  repeat first|refine gG ?_|show AK _;intro J Z|refine gJ ?_|omega|exact aT
  (refine gC ?_ ?_<;>intro hc<;>try contradiction)
  .obtain ⟨d,hx⟩:=zm (i:=k) (l:=zW r.per) (by omega)
   have hdm:=zig (xad hx);have hlt:=zgr hx;have qe:=aI qR @hx;repeat' first|refine gC ?_ ?_<;>intro hc<;>try contradiction|refine gG ?_|show AK _;intro J Z|refine gJ ?_|omega|exact aT
   exact ⟨k+1,by omega,by omega,⟨by rw [xaK,hx,xae];rfl,by simp⟩,by rw [zdg (zeh r) hx];simp [zeh]⟩
  .repeat' first|refine gC ?_ ?_<;>intro hc<;>try contradiction|refine gG ?_|show AK _;intro J Z|refine gJ ?_|omega|exact aT
   have e:k=(zW r.per).length:=by omega
   subst e;rw [xas];exact .refl _
def wiL (m:List Mov) (o:Mov) (i:Nat) (l:Lim):List Win:=if zad l o.kind o.term then (yb l).flatMap (arB m o i l) else []
def wiI (ls:List Lim) (m:List Mov) (o:Mov) (i:Nat):List Win:=match ls[i]? with|some l=>wiL m o i l|none=>[]
def wiK (ls:List Lim) (m:List Mov) (o:Mov) (k:Nat):List Win:=(List.range k).flatMap (wiI ls m o)
def wiW (ls:List Lim) (m:List Mov) (o:Mov):List Win:=wiK ls m o ls.length
def yeA {l:Lim} (h:zaR l=0) (m:List Mov) (o:Mov) (i:Nat):(wiL m o i l).length<=577440:=by
 unfold wiL
 split
 .have h1:((yb l).flatMap (arB m o i l)).length<=(yb l).length*1:=zcD λb _=>by unfold arB;split<;>simp
  have:=yan h
  omega
 .simp
def yeB {ls:List Lim} (h:∀ l ∈ ls,zaR l=0) (m:List Mov) (o:Mov) (k:Nat):(wiK ls m o k).length<=k*577440:=by
 have h1:(wiK ls m o k).length<=(List.range k).length*577440:=zcD λi _=>by
  unfold wiI
  split
  .rename_i l hl;exact yeA (h l (xad hl)) m o i
  .simp
 simpa using h1
def yeX (ls:List Lim) (m:List Mov) (o:Mov) (hn:ls.length<=32) (h:∀ l ∈ ls,zaR l=0) (hm:m.length<=1000000):Pure prog 231 [.sl 11 (ls.map Lim.pv),.sl 7 (m.map Mov.pv),o.pv] (.sl 3 ((wiW ls m o).map Win.pv)):=by
 refine pz func231 f231.eq_1 λhw X hX=>?_
 repeat' first|refine gC ?_ ?_<;>intro hc<;>try contradiction|refine gG ?_|show AK _;intro J Z|refine gJ ?_|omega|exact aT
 refine zaO 100 276 3 [(0,.p (.sl 11 (ls.map Lim.pv))),(1,.p (.sl 7 (m.map Mov.pv))),(5,.lp 5 0),(7,.row 100 0),(8,.p (.i .i64 0))] [(5,.box ([.i .i64 o.moment,.s o.kind,.s o.term,.i .i64 o.seats,.i .i64 o.size,.i .i64 o.noise,.s o.name].map .p) false)] ?_ ?_
 .simp only [Own,zaL,zaA,zbr,zax,qS,seval]
 refine zi (κ:=Nat) (λk=>⟨[(0,.p (.sl 11 (ls.map Lim.pv))),(1,.p (.sl 7 (m.map Mov.pv))),(5,.lp 5 0),(7,.row 100 (wiK ls m o k).length),(8,.p (.i .i64 k))],[(5,.box ([.i .i64 o.moment,.s o.kind,.s o.term,.i .i64 o.seats,.i .i64 o.size,.i .i64 o.noise,.s o.name].map .p) false),(100,.row 276 3 ((wiK ls m o k).map Win.pv) false)],[],false⟩) (λk=>k<=ls.length) (λk=>ls.length - k) 0 ?_ ?_ ?_
 .refine gJ ?_;simp [wiK]
 .simp
 .intro k hk
  repeat first|refine gG ?_|show AK _;intro J Z|refine gJ ?_|omega|exact aT
  (refine gC ?_ ?_<;>intro hc<;>try contradiction)
  .obtain ⟨l,hx⟩:=zm (i:=k) (l:=ls) (by omega)
   have h1:=h l (xad hx);have hlm:=zcb h1;have hi:wiI ls m o k=wiL m o k l:=by rw [wiI,hx]
   have hkl:=yeB h m o k;have hwl:=yan h1;have qe:=aI qR @hx;repeat' first|refine gC ?_ ?_<;>intro hc<;>try contradiction|refine za (yej l o) ?_|refine za (pure39 l h1) ?_|refine gG ?_|show AK _;intro J Z|refine gJ ?_|omega|exact aT
   .have ha:wiL m o k l=[]:=by rw [wiL,hc];rfl
    have e2:wiK ls m o (k+1)=wiK ls m o k:=by rw [wiK,zac,hi,ha,xat,<-wiK]
    exact ⟨k+1,by omega,by omega,⟨by rw [e2],by simp⟩,by rw [e2]⟩
   .have ha:wiL m o k l=(yb l).flatMap (arB m o k l):=by rw [wiL,if_pos (by assumption)]
    refine zi (κ:=Nat) (λj=>⟨[(0,.p (.sl 11 (ls.map Lim.pv))),(1,.p (.sl 7 (m.map Mov.pv))),(5,.lp 5 0),(7,.row 100 (wiK ls m o k++((yb l).take j).flatMap (arB m o k l)).length),(8,.p (.i .i64 k)),(9,.p (.sl 1 ((yb l).map (.i .i64)))),(10,.p (.i .i64 j))],[(5,.box ([.i .i64 o.moment,.s o.kind,.s o.term,.i .i64 o.seats,.i .i64 o.size,.i .i64 o.noise,.s o.name].map .p) false),(100,.row 276 3 ((wiK ls m o k++((yb l).take j).flatMap (arB m o k l)).map Win.pv) false)],[],false⟩) (λj=>j<=(yb l).length) (λj=>(yb l).length - j) 0 ?_ ?_ ?_
    .exact sS
    .simp
    .intro j hj
     repeat first|refine gG ?_|show AK _;intro J Z|refine gJ ?_|omega|exact aT
     (refine gC ?_ ?_<;>intro hc<;>try contradiction)
     .obtain ⟨b,hb⟩:=zm (i:=j) (l:=yb l) (by omega)
      have hbm:=yaW h1 (xad hb);have hnx:=zfe (arB m o k l) hb;have hjl:(((yb l).take j).flatMap (arB m o k l)).length<=((yb l).take j).length*1:=zcD λb _=>by unfold arB;split<;>simp
      simp only [xai] at hjl;have hal:(wiK ls m o k++((yb l).take j).flatMap (arB m o k l)).length<=33*577440:=by rw [xae];omega
      have qe:=aI qR (aI @hx @hb);repeat' first|refine gC ?_ ?_<;>intro hc<;>try contradiction|refine za (pure37 l m b h1 hm (by omega) (by omega)) ?_|refine za (ycw l b o.moment (by omega) (by omega) (by omega) (by omega)) ?_|refine gG ?_|show AK _;intro J Z|refine gJ ?_|omega|exact aT
      .rw [show arB m o k l b=[⟨k,b,zbq l m b⟩] by rw [arB,if_pos hc]] at hnx
       exact ⟨j+1,by omega,by omega,⟨by rw [hnx];simp;omega,by simp⟩,by rw [hnx];simp⟩
      .rw [show arB m o k l b=[] by rw [arB,if_neg (λe=>by have:=hc e.1;omega)],xat] at hnx
       exact ⟨j+1,by omega,by omega,⟨by rw [hnx],by simp⟩,by rw [hnx]⟩
     .repeat' first|refine gC ?_ ?_<;>intro hc<;>try contradiction|refine gG ?_|show AK _;intro J Z|refine gJ ?_|omega|exact aT
      have e:j=(yb l).length:=by omega
      subst e;have e2:wiK ls m o (k+1)=wiK ls m o k++(yb l).flatMap (arB m o k l):=by rw [wiK,zac,hi,ha,<-wiK]
      exact ⟨k+1,by omega,by omega,⟨by rw [xas,e2,xae],by simp⟩,by rw [xas,e2,xaO]⟩
  .repeat' first|refine gC ?_ ?_<;>intro hc<;>try contradiction|refine gG ?_|show AK _;intro J Z|refine gJ ?_|omega|exact aT
   have e:k=ls.length:=by omega
   subst e;exact .refl _
def yas {α:Type} (f:Int->List α) (a:Int) (n:Nat):List α:=(List.range n).flatMap λ(k:Nat)=>f (a+k)
def ybc {α:Type} (f:Int->List α) (a:Int) (n k:Nat):yas f a (n+k)=yas f a n++yas f (a+n) k:=by
 unfold yas;rw [List.range_add,xa0,List.flatMap_map]
 congr 1
 exact yV λi _=>by rw [show a+((n+i:Nat):Int)=a+n+i by omega]
def ybb {α:Type} {f:Int->List α} {a:Int} {n:Nat} (h:∀ d,a<=d->d < a+n->f d=[]):yas f a n=[]:=by
 unfold yas;rw [List.flatMap_eq_nil_iff];intro k hk;have:=xaV.1 hk;exact h _ (by omega) (by omega)
def yba {α:Type} {f:Int->List α} {a b a1 b1:Int} (h1:a<=a1) (h2:a1<=b1) (h3:b1<=b) (hl:∀ d,a<=d->d < a1->f d=[]) (hr:∀ d,b1<=d->d < b->f d=[]):yas f a (b - a).toNat=yas f a1 (b1 - a1).toNat:=by
 rw [show (b - a).toNat=(a1 - a).toNat+((b1 - a1).toNat+(b - b1).toNat) by omega,ybc,ybc,ybb (a:=a) (λd h h'=>hl d h (by omega)),ybb (a:=a+((a1 - a).toNat:Int)+((b1 - a1).toNat:Int)) (λd h h'=>hr d (by omega) (by omega)),xat,xaP,show a+((a1 - a).toNat:Int)=a1 by omega]
def yfv {m:List Mov} {o:Mov} {i:Nat} {l:Lim} (h:zaR l=0) {d:Int} (hd:d < o.moment / 1440 - 1\/o.moment / 1440 < d\/d < l.per.fro\/l.per.to < d):arD m o i l d=[]:=by
 unfold arD;rw [List.flatMap_eq_nil_iff];intro b hb;have hm:=zfr h hb;have hl:=zcb h;unfold arB;rw [if_neg];intro hin
 omega
def wiL_eq {l:Lim} (h:zaR l=0) (m:List Mov) (o:Mov) (i:Nat):wiL m o i l=arL m o i l:=by
 unfold wiL arL
 split
 .have hl:=zcb h;have hp:=zaW hl.2.2.2.2.2.2.2.1;have e1:(yb l).flatMap (arB m o i l)=yas (arD m o i l) l.per.fro (l.per.to+1 - l.per.fro).toNat:=by
   unfold yb winK winN yas;rw [List.flatMap_assoc,show l.per.to+1 - l.per.fro=l.per.to - l.per.fro+1 by omega]
   rfl
  have e2:(List.range 2).flatMap (arX m o i l)=yas (arD m o i l) (o.moment / 1440 - 1) (o.moment / 1440+1 - (o.moment / 1440 - 1)).toNat:=by
   rw [show (o.moment / 1440+1 - (o.moment / 1440 - 1)).toNat=2 by omega]
   rfl
  rw [e1,e2];have hN:∀ d,(d < o.moment / 1440 - 1\/o.moment / 1440 < d\/d < l.per.fro\/l.per.to < d)->arD m o i l d=[]:=λd hd=>yfv h hd
  generalize o.moment / 1440=D at hN ⊢;rw [<-yba (f:=arD m o i l) (a:=min l.per.fro (D - 1)) (b:=max (l.per.to+1) (D+1)) (by omega) (by omega) (by omega) (λd h1 h2=>hN d (by omega)) (λd h1 h2=>hN d (by omega))]
  rw [<-yba (f:=arD m o i l) (a:=min l.per.fro (D - 1)) (b:=max (l.per.to+1) (D+1)) (a1:=D - 1) (b1:=D+1) (by omega) (by omega) (by omega) (λd h1 h2=>hN d (by omega)) (λd h1 h2=>hN d (by omega))]
 .rfl
def wiW_eq {ls:List Lim} (h:∀ l ∈ ls,zaR l=0) (m:List Mov) (o:Mov):wiW ls m o=arW ls m o:=by
 unfold wiW wiK arW arK;refine yV λi _=>?_
 unfold wiI arI;cases hl:ls[i]? with
 | none=>rfl
 | some l=>exact wiL_eq (h l (xad hl)) m o i
def pure46 (ls:List Lim) (m:List Mov) (o:Mov) (h0:zpd ls m=0):Pure prog 180 [.sl 11 (ls.map Lim.pv),.sl 7 (m.map Mov.pv),o.pv] (.i .i64 (zwD ls m o)):=by
 have h1:=h0;simp only [zq] at h1;have hl:=zio h1.1;have hm:=zaQ h1.2.1;have p103:=yeX ls m o hl.1 hl.2 (by omega)
 rw [wiW_eq hl.2] at p103;have hwn:=zvX (m:=m) (o:=o) hl.1 hl.2;refine pz func180 f180.eq_1 λhw X hX=>?_
 repeat' first|refine gC ?_ ?_<;>intro hc<;>try contradiction|refine za p103 ?_|refine gG ?_|show AK _;intro J Z|refine gJ ?_|omega|exact aT
 refine zi (κ:=Nat) (λk=>⟨[(0,.p (.sl 11 (ls.map Lim.pv))),(7,.p (.i .i64 (roomK ls ((arW ls m o).take k)))),(8,.p (.sl 3 ((arW ls m o).map Win.pv))),(9,.p (.i .i64 k))],[],[],false⟩) (λk=>k<=(arW ls m o).length) (λk=>(arW ls m o).length - k) 0 ?_ ?_ ?_
 .simp only [qS,Nat.reduceAdd,Nat.reduceMul,Nat.reduceEqDiff,Nat.reduceLeDiff,reduceIte,reduceCtorEq,Nat.reduceBEq,Nat.reduceLT]<;>exact ⟨rfl,rfl⟩
 .simp
 .intro k hk
  repeat first|refine gG ?_|show AK _;intro J Z|refine gJ ?_|omega|exact aT
  (refine gC ?_ ?_<;>intro hc<;>try contradiction)
  .obtain ⟨w,hy⟩:=zm (i:=k) (l:=arW ls m o) (by omega)
   have hnx:=yb7 (ls:=ls) hy;obtain ⟨i,l,hwi,hli,hwc,_⟩:=ztg (xad hy);have hil:=(xaa.1 hli).1;have hlm:=zcb (hl.2 l (xad hli));have hcb:=ycP (l:=l) h1.2.1 w.beg;have hma:zcv ls w.lim=l.most:=by rw [zcv,hwi,xbS,hli]
   have qe:=aI qR (aI @hy (aI @hwi @hli));repeat' first|refine gC ?_ ?_<;>intro hc<;>try contradiction|refine gG ?_|show AK _;intro J Z|refine gJ ?_|omega|exact aT
   exact ⟨k+1,by omega,by omega,by rw [hnx,zbZ,hma],by simp⟩
  .repeat' first|refine gC ?_ ?_<;>intro hc<;>try contradiction|refine gG ?_|show AK _;intro J Z|refine gJ ?_|omega|exact aT
   have e:k=(arW ls m o).length:=by omega
   subst e;rw [xas];exact .refl _
def yel (ls:List Lim) (m:List Mov) (r:Req) (h0:zpd ls m=0) (hr:zdB r=0):Pure prog 105 [.sl 11 (ls.map Lim.pv),.sl 7 (m.map Mov.pv),r.pv] (.b (zoC ls m r)):=by
 have hp:=zaW (zeC hr).1;have hdl:=zcE r.per;have hml:(zrw r).length<=1000:=by rw [zrw,xaf];omega
 refine pz func105 f105.eq_1 λhw X hX=>?_
 have qe:=@qR;repeat' first|refine gC ?_ ?_<;>intro hc<;>try contradiction|refine za (yen r hr) ?_|refine gG ?_|show AK _;intro J Z|refine gJ ?_|omega|exact aT
 refine zi (κ:=Nat) (λk=>⟨[(0,.p (.sl 11 (ls.map Lim.pv))),(1,.p (.sl 7 (m.map Mov.pv))),(7,.p (.sl 7 ((zrw r).map Mov.pv))),(8,.p (.i .i64 k))],[],[],false⟩) (λk=>k<=(zrw r).length/\∀ o ∈ (zrw r).take k,(!decide (zwD ls m o < 1))=true) (λk=>(zrw r).length - k) 0 ?_ ?_ ?_
 .exact sR
 .simp
 .intro k hk
  repeat first|refine gG ?_|show AK _;intro J Z|refine gJ ?_|omega|exact aT
  (refine gC ?_ ?_<;>intro hc<;>try contradiction)
  .obtain ⟨o,hx⟩:=zm (i:=k) (l:=zrw r) (by omega)
   have qe:=aI qR @hx;repeat' first|refine gC ?_ ?_<;>intro hc<;>try contradiction|refine za (pure46 ls m o h0) ?_|refine gG ?_|show AK _;intro J Z|refine gJ ?_|omega|exact aT
   .rw [zoC,yaf hx (by simpa using hc)];exact .refl _
   .exact ⟨k+1,⟨by omega,λy hy=>by simpa using yH hk.2 hx (by simpa using hc) y hy⟩,by omega,by simp⟩
  .repeat' first|refine gC ?_ ?_<;>intro hc<;>try contradiction|refine gG ?_|show AK _;intro J Z|refine gJ ?_|omega|exact aT
   have e:k=(zrw r).length:=by omega
   subst e;rw [zoC,y5 hk.2];exact .refl _
abbrev yY (l:List Mov):Prop:=l.Pairwise λx y=>x.moment<=y.moment
def ybm {bef:Mov->Mov->Bool} (h1:∀ a b,bef a b=true->a.moment<=b.moment) (h2:∀ a b,bef a b=false->b.moment<=a.moment) {out:List Mov} (h:yY out) (x:Mov):yY (zl3 bef out x):=by
 unfold zl3;generalize hk:zb6 bef x out out.length=k;have hkl:=zkM bef x out out.length;rw [hk] at hkl;have hge:=zkN bef x out out.length;have hla:=zga bef x out out.length;rw [hk] at hge hla;have hs:yY (out.take k++out.drop k):=by rw [xaw];exact h
 have hs:=xba.1 hs;have hdrop:∀ y ∈ out.drop k,x.moment<=y.moment:=λy hy=>by
  obtain ⟨i,hi⟩:=xaZ hy;rw [xaS] at hi;have hlt:=(xaa.1 hi).1;obtain ⟨z,hz,hb⟩:=hge (k+i) (by omega) hlt
  rw [hi] at hz;cases hz;exact h1 _ _ hb
 have htake:∀ y ∈ out.take k,y.moment<=x.moment:=λy hy=>by
  cases k with
  | zero=>simp at hy
  | succ k=>
   obtain ⟨z,hz⟩:∃ z,out[k]?=some z:=⟨_,xab (by omega)⟩
   have hb:=h2 _ _ (hla k z rfl hz);obtain ⟨i,hi⟩:=xaZ hy;have hik:i < k+1:=by
    have:=(xaa.1 hi).1;simp only [xai] at this;omega
   rw [xaI,if_pos hik] at hi
   by_cases e:i=k
   .subst e;rw [hz] at hi;cases hi;exact hb
   .have hlt:=(xaa.1 hi).1;have:=xaW.1 h i k hlt (by omega) (by omega)
    rw [xab hlt] at hi;rw [xab (by omega)] at hz
    have e1:=xaM hi;have e2:=xaM hz;rw [e1,e2] at this
    omega
 refine xba.2 ⟨hs.1,xbg.2 ⟨hdrop,hs.2.1⟩,λa ha b hb=>?_⟩
 rcases xaA.1 hb with rfl|hb
 .exact htake a ha
 .exact hs.2.2 a ha b hb
theorem yae {bef:Mov->Mov->Bool} (h1:∀ a b,bef a b=true->a.moment<=b.moment) (h2:∀ a b,bef a b=false->b.moment<=a.moment):∀ (l out:List Mov),yY out->yY (l.foldl (zl3 bef) out)
 | [],_,h=>h
 | x::l,_,h=>yae h1 h2 l _ (ybm h1 h2 h x)
def ya3 {bef:Mov->Mov->Bool} (h1:∀ a b,bef a b=true->a.moment<=b.moment) (h2:∀ a b,bef a b=false->b.moment<=a.moment) (a b:List Mov):yY (zf5 bef a b):=yae h1 h2 _ _ List.Pairwise.nil
def yce {l:List Int} (h:∀ x ∈ l,x=0):zf l=0:=by
 induction l with
 | nil=>rfl
 | cons x r ih=>exact zq.2 ⟨h x (by simp),ih λy hy=>h y (by simp [hy])⟩
def yaG {m:List Mov} (hn:m.length<=30000) (hc:∀ x ∈ m,zed x=0) (hs:yY m):zae m=0:=by
 rw [zae,if_neg (by omega)]
 refine yce λe he=>?_
 obtain ⟨i,hi⟩:=xaZ he;simp only [zgS,List.getElem?_mapIdx,xac] at hi;obtain ⟨x,hx,rfl⟩:=hi;refine zq.2 ⟨hc x (xad hx),zq.2 ⟨if_neg λhh=>?_,rfl⟩⟩
 have hlt:=(xaa.1 hx).1;have:=xaW.1 hs (i - 1) i (by omega) hlt (by omega)
 rw [xab (by omega),xa4] at hh
 rw [xab hlt] at hx;rw [xaM hx] at this
 omega
def mgK (l:List Mov) (k:Nat):List Mov:=(l.take k).foldl (zl3 zk3) []
def ybk {l:List Mov} {k:Nat} (h:k<=l.length):(mgK l k).length=k:=by
 have:=(zcQ zk3 (l.take k) []).length_eq;rw [mgK,this];simp;omega
def ydQ {l:List Mov} {k:Nat} {x:Mov} (h:l[k]?=some x):mgK l (k+1)=zl3 zk3 (mgK l k) x:=by
 rw [mgK,xaK,h,xa2];rfl
def allTk {l:List PV} {n:Nat} (h:l.all (λx=>x.cells.all PV.one)=true):(l.take n).all (λx=>x.cells.all PV.one)=true:=by rw [xaB] at h ⊢;exact λx hx=>h x (xbf hx)
def allDr {l:List PV} {n:Nat} (h:l.all (λx=>x.cells.all PV.one)=true):(l.drop n).all (λx=>x.cells.all PV.one)=true:=by rw [xaB] at h ⊢;exact λx hx=>h x (xbA hx)
def yeD {a b:PV} (h:a=b):Weak a b:=h ▸ .refl _
def ycz (a b:Mov):Pure prog 232 [a.pv,b.pv] (.b (zk3 a b)):=by
 refine pz func232 f232.eq_1 λhw X hX=>?_
 by_cases h1:a.moment=b.moment
 .by_cases h2:a.kind=b.kind
  .have h1':=eq_true h1;have h2':=eq_true h2;have qe:=aI @h1' @h2';repeat' first|refine gC ?_ ?_<;>intro hc<;>try contradiction|refine gG ?_|show AK _;intro J Z|refine gJ ?_|omega|exact aT
   rw [zk3,if_pos h1,if_pos h2];exact .refl _
  .have h1':=eq_true h1;have h2':=eq_false h2;have qe:=aI @h1' @h2';repeat' first|refine gC ?_ ?_<;>intro hc<;>try contradiction|refine gG ?_|show AK _;intro J Z|refine gJ ?_|omega|exact aT
   rw [zk3,if_pos h1,if_neg h2];exact .refl _
 .have h1':=eq_false h1;have qe:=@h1';repeat' first|refine gC ?_ ?_<;>intro hc<;>try contradiction|refine gG ?_|show AK _;intro J Z|refine gJ ?_|omega|exact aT
  rw [zk3,if_neg h1];exact .refl _
def ydW {x:Mov} {out:List Mov} {q:Nat} {y:Mov} (hy:out[q]?=some y) (hb:zk3 x y=false):zb6 zk3 x out (q+1)=q+1:=by
 simp only [zb6,hy];rw [if_neg (by simp [hb])]
def ins_go {x:Mov} {out:List Mov} {q:Nat} {y:Mov} (hy:out[q]?=some y) (hb:zk3 x y=true):zb6 zk3 x out (q+1)=zb6 zk3 x out q:=by
 simp only [zb6,hy];rw [if_pos hb]
def yes {l:List Mov} {k q:Nat} {x:Mov} (hx:l[k]?=some x) (h:q=zb6 zk3 x (mgK l k) k):((mgK l k).map Mov.pv).take q++x.pv::((mgK l k).map Mov.pv).drop q=(mgK l (k+1)).map Mov.pv:=by
 have hk:k<=l.length:=Nat.le_of_lt (xaa.1 hx).1;rw [ydQ hx,zl3,ybk hk,<-h];simp
def mgT {l:List Mov} {k q:Nat} (hk:k<=l.length) (hq:q<=k):(((mgK l k).map Mov.pv).take q).length=q/\(((mgK l k).map Mov.pv).drop q).length=k - q/\((((mgK l k).map Mov.pv).take q).all (λx=>x.cells.all PV.one)=true)=True/\((((mgK l k).map Mov.pv).drop q).all (λx=>x.cells.all PV.one)=true)=True:=by
 have h:=ybk hk;have ha:((mgK l k).map Mov.pv).all (λx=>x.cells.all PV.one)=true:=by rw [List.all_map];exact zyF _
 exact ⟨by simp;omega,by simp;omega,eq_true (allTk ha),eq_true (allDr ha)⟩
def pure69 (a b:List Mov) (hn:a.length+b.length<=1000000):Pure prog 181 [.sl 7 (a.map Mov.pv),.sl 7 (b.map Mov.pv)] (.sl 7 ((zf5 zk3 a b).map Mov.pv)):=by
 refine pz func181 f181.eq_1 λhw X hX=>?_
 have hl:(a++b).length=a.length+b.length:=xae;have hA:=λl=>eq_true (zyF l)
 have qe:=aI qR @hA;repeat' first|refine gC ?_ ?_<;>intro hc<;>try contradiction|refine gG ?_|show AK _;intro J Z|refine gJ ?_|omega|exact aT
 refine ycq (κ:=Nat) (λk=>⟨[(5,.p (.sl 7 ((a++b).map Mov.pv))),(6,.p (.sl 7 ((mgK (a++b) k).map Mov.pv))),(7,.p (.i .i64 k))],[],[],false⟩) (λk=>k<=(a++b).length) (λk=>(a++b).length - k) 0 ?_ ?_ ?_
 .refine .x 5 (.sl 7 ((a++b).map Mov.pv)) ?_ (hw:=yeD (by simp))
  refine .x 6 (.sl 7 []) ?_;exact .cov (by simp only [qS,seval]<;>simp [mgK])
 .simp
 .intro k hk;have hkl:=ybk hk
  by_cases hlt:k < (a++b).length
  .obtain ⟨x,hx⟩:=zm (i:=k) (l:=a++b) (by omega)
   have qe:=aI qR (aI @hA (aI @hx (aI @hkl @hl)));repeat' first|refine gC ?_ ?_<;>intro hc<;>try contradiction|refine gG ?_|show AK _;intro J Z|refine gJ ?_|omega|exact aT
   refine zi (κ:=Nat) (λq=>⟨[(5,.p (.sl 7 ((a++b).map Mov.pv))),(6,.p (.sl 7 ((mgK (a++b) k).map Mov.pv))),(7,.p (.i .i64 k)),(8,.p (.i .i64 q))],[],[],false⟩) (λq=>q<=k/\zb6 zk3 x (mgK (a++b) k) q=zb6 zk3 x (mgK (a++b) k) k) (λq=>q) k ?_ ?_ ?_
   .exact sS
   .simp
   .intro q hq;cases q with
    | zero=>
     obtain ⟨hT1,hT2,hT3,hT4⟩:=mgT (l:=a++b) (k:=k) (q:=0) (by omega) (by omega)
     have i0:(0 < ((0:Nat):Int))=False:=eq_false (by omega)
     have qe:=aI qR (aI @hA (aI @hx (aI @i0 (aI @hT1 (aI @hT2 (aI @hT3 (aI @hT4 (aI @hkl (aI @hl (aI @lpN (aI @lpE @lpR)))))))))));repeat' first|refine gC ?_ ?_<;>intro hc<;>try contradiction|(show zh _ _ _ _ (⟨_,.call _,_,_,_⟩::_) _ _;refine zbh (hf:=λhc=>(by first|exact (absurd hc (by decide):Pure prog 232 _ (.b false))|(simp only [qH,zdl] at hc;exact (absurd hc (by decide):Pure prog 232 _ (.b false))))) (hn:=?_))|refine gG ?_|show AK _;intro J Z|refine gJ ?_|omega|exact aT
     refine ⟨k+1,by omega,by dsimp only;omega,.x 6 (.sl 7 ((mgK (a++b) (k+1)).map Mov.pv)) ?_ (hw:=yeD (by rw [<-yes hx (show 0=_ from hq.2)];simp))⟩
     exact .cov (sS)
    | succ q=>
     obtain ⟨y,hy⟩:=zm (i:=q) (l:=mgK (a++b) k) (by omega)
     have i0:(0 < ((q+1:Nat):Int))=True:=eq_true (by omega)
     have i1:((q+1:Nat):Int) - 1=(q:Int):=by omega
     obtain ⟨hT1,hT2,hT3,hT4⟩:=mgT (l:=a++b) (k:=k) (q:=q+1) (by omega) (by omega)
     cases hb:zk3 x y with
     | true=>
      have h0:=ins_go hy hb;have qe:=aI qR (aI @hA (aI @hx (aI @hy (aI @hb (aI @i0 (aI @i1 (aI @hT1 (aI @hT2 (aI @hT3 (aI @hT4 (aI @hkl (aI @hl (aI @lpN (aI @lpE @lpR))))))))))))));repeat' first|refine gC ?_ ?_<;>intro hc<;>try contradiction|refine zp (λ_=>ycz x y) ?_|refine gG ?_|show AK _;intro J Z|refine gJ ?_|omega|exact aT
      exact ⟨q,⟨by omega,by rw [<-h0];exact hq.2⟩,by omega,rfl⟩
     | false=>
      have h0:=ydW hy hb;have qe:=aI qR (aI @hA (aI @hx (aI @hy (aI @hb (aI @i0 (aI @i1 (aI @hT1 (aI @hT2 (aI @hT3 (aI @hT4 (aI @hkl (aI @hl (aI @lpN (aI @lpE @lpR))))))))))))));repeat' first|refine gC ?_ ?_<;>intro hc<;>try contradiction|refine zp (λ_=>ycz x y) ?_|refine gG ?_|show AK _;intro J Z|refine gJ ?_|omega|exact aT
      refine ⟨k+1,by omega,by dsimp only;omega,.x 6 (.sl 7 ((mgK (a++b) (k+1)).map Mov.pv)) ?_ (hw:=yeD (by rw [<-yes hx (h0.symm.trans hq.2)];simp))⟩
      exact .cov (sS)
  .have qe:=aI qR (aI @hA (aI @hkl (aI @hl (aI @lpN (aI @lpE @lpR)))));repeat' first|refine gC ?_ ?_<;>intro hc<;>try contradiction|refine gG ?_|show AK _;intro J Z|refine gJ ?_|omega|exact aT
   have e:k=(a++b).length:=by omega
   have e2:mgK (a++b) (a++b).length=zf5 zk3 a b:=by rw [mgK,xas];rfl
   subst e;rw [e2];exact .refl _
def bef1 {a b:Mov} (h:zk3 a b=true):a.moment<=b.moment:=by
 unfold zk3 at h;split at h
 .omega
 .simp only [decide_eq_true_eq] at h;omega
def bef0 {a b:Mov} (h:zk3 a b=false):b.moment<=a.moment:=by
 unfold zk3 at h;split at h
 .omega
 .simp only [decide_eq_false_iff_not] at h;omega
def ydR {a b:List Mov} (ha:∀ x ∈ a,zed x=0) (hb:∀ x ∈ b,zed x=0) (hn:a.length+b.length<=30000):zae (zf5 zk3 a b)=0/\(zf5 zk3 a b).length=a.length+b.length:=by
 have hp:=zlQ zk3 a b;have hlen:(zf5 zk3 a b).length=a.length+b.length:=by rw [hp.length_eq,xae]
 refine ⟨yaG (by omega) (λx hx=>?_) (ya3 (λ_ _ h=>bef1 h) (λ_ _ h=>bef0 h) a b),hlen⟩
 rcases xaD.1 (hp.mem_iff.1 hx) with h|h
 .exact ha x h
 .exact hb x h
