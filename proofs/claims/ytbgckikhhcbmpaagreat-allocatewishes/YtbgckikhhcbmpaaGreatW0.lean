/- Contracts of functions, for the claim. No conditions. -/
import Derived.ProofKit
import Derived.OpenShut
import Derived.Carry
import Derived.OpenVars
import Derived.HandedShaped
import Derived.KernelRfl
import Derived.Laws.RangeAny
import Derived.Test.YtbgckikhhcbmpaaGreatRows
import Derived.Test.YtbgckikhhcbmpaaGreatK4
import Derived.Test.YtbgckikhhcbmpaaGreatK5
import Derived.Test.YtbgckikhhcbmpaaGreatK15
set_option linter.all false
set_option maxHeartbeats 8000000
set_option maxRecDepth 100000
namespace Go.Proofs.YtbgckikhhcbmpaaGreat
open Go.ChangeShapes Go.WideShapes Go.ChangeAt Go.RowKit Go.Proofs.Tryz
def yDF:=aI @decide_true @decide_false
def yDT:=aI @decide_true (aI @decide_false @Bool.not_true)
def yb (P:Program) (t:TypeId):Bool:=match P.underlying t with|some (.struct _)|some (.array _ _)=>true|_=>false
def yd (P:Program) (F:TypeId->Option (List CP)):List (TypeId × Nat)->Nat->Option (List CP)
 | [],_=>some []
 | p::r,off=>if p.2=off then (F p.1).bind λc=>if P.cellsOf p.1=c.length then (yd P F r (off+c.length)).map (c++·) else none else none
def yq (P:Program):Nat->Nat->TypeId->Option (List CP)
 | 0,_,_=>none
 | n+1,sl,t=>match P.underlying t with
  | some .bool=>some [.b]
  | some (.int k)=>some [.i k]
  | some .string=>some [.s]
  | some (.slice e)=>match sl with
   | 0=>none
   | sl+1=>(yq P n sl e).bind λc=>if P.cellsOf e=c.length/\(yb P e=true\/c.length=1)/\0 < c.length then some [.sl (yb P e) c] else none
  | some (.struct fs)=>(yd P (yq P n sl) (fs.toList.map λf=>(f.type,f.offset)) 0).bind λc=>if c.length=P.cellsOf t then some c else none
  | some (.array m e)=>(yd P (yq P n sl) ((List.range m).map λi=>(e,i*P.cellsOf e)) 0).bind λc=>if c.length=P.cellsOf t then some c else none
  | _=>none
def yA (ag:Bool) (l:List PV):PV:=if ag then .agg l else l.headD .any
def Fit:Nat->CP->PV->Prop
 | _,.b,p=>∃ x,p=.b x
 | _,.i k,p=>∃ n,p=.i k n
 | _,.s,p=>∃ x,p=.s x
 | 0,.sl _ _,_=>False
 | n+1,.sl ag cs,p=>∃ xs,p=.sl cs.length xs/\∀ x ∈ xs,∃ l,x=yA ag l/\FitAll (Fit n) cs l
theorem yf {α β:Type} {f:α->Option β}:∀ {l:List α} {r:List β},l.mapM f=some r->∀ x ∈ l,∃ y,f x=some y
 | [],_,_,x,hx=>by cases hx
 | a::l,r,h,x,hx=>by
  rw [xce] at h;cases ha:f a with
  | none=>rw [ha] at h;cases h
  | some y=>
   rw [ha] at h;simp only [xco,xbK] at h;cases hl:l.mapM f with
   | none=>rw [hl] at h;cases h
   | some ys=>
    rcases xaF.1 hx with rfl|hx
    .exact ⟨y,ha⟩
    .exact yf hl x hx
theorem ya {α β:Type} {f:α->Option β}:∀ {l:List α} {r:List β},l.mapM f=some r->r.length=l.length
 | [],r,h=>by simp at h;subst h;rfl
 | a::l,r,h=>by
  rw [xce] at h;cases ha:f a with
  | none=>rw [ha] at h;cases h
  | some y=>
   rw [ha] at h;simp only [xco,xbK] at h;cases hl:l.mapM f with
   | none=>rw [hl] at h;cases h
   | some ys=>
    rw [hl] at h;simp only [xbK,Option.pure_def,xaD] at h;subst h;simp [ya hl]
theorem yC {α β:Type} {f:α->Option β}:∀ {l:List α} {r:List β},l.mapM f=some r->∀ {i:Nat} {x:α},l[i]?=some x->f x=r[i]?
 | [],r,_,i,x,hx=>by simp at hx
 | a::l,r,h,i,x,hx=>by
  rw [xce] at h;cases ha:f a with
  | none=>rw [ha] at h;cases h
  | some y=>
   rw [ha] at h;simp only [xco,xbK] at h;cases hl:l.mapM f with
   | none=>rw [hl] at h;cases h
   | some ys=>
    rw [hl] at h;simp only [xbK,Option.pure_def,xaD] at h;subst h;cases i with
    | zero=>simp at hx;subst hx;simpa using ha
    | succ i=>simpa using yC hl (i:=i) (by simpa using hx)
def yaP {k:IntKind} {n:Int} (h:(Lit.int k n).wf=true):k.wrap n=n:=by
 cases k<;>simp [Lit.wf,IntKind.wrap,IntKind.min,IntKind.max,IntKind.signed,IntKind.bits] at *<;>omega
section
variable {H:Type} {enc:TypeId × Value->H} {P:Program} {w:World} {base:Nat} {sp:Nat->Bool} {held:Bool}
def yai {a:Addr} {v:Value} (h:w.cell? a=some v):a.block < w.heap.size/\a.spot=none:=by
 unfold World.cell? at h
 split at h
 .rename_i hh
  split at h
  .cases h
  .rename_i hs;exact ⟨(xaK.1 hh).1,by simpa using hs⟩
 .cases h
theorem yg {fuel n:Nat} {sl:Nat} {B:Nat->Prop} {cs:List Value}
  (ih:∀ {t:TypeId} {ds:List Value} {x:DataW H × List MemPlace} {c:List CP},(∀ v ∈ ds,v ∈ cs)->DataW.trod enc P w base sp held fuel t ds=some x->yq P n sl t=some c->∃ ps,Reps w B ds ps/\FitAll (Fit n) c ps) :
  ∀ (fl:List (TypeId × Nat)) (off:Nat) (c:List CP),(∀ p ∈ fl,∃ x,DataW.trod enc P w base sp held fuel p.1 ((cs.drop p.2).take (P.cellsOf p.1))=some x)->yd P (yq P n sl) fl off=some c->off+c.length<=cs.length ->
   ∃ ps,Reps w B ((cs.drop off).take c.length) ps/\FitAll (Fit n) c ps
 | [],off,c,_,h,_=>by
  simp only [yd,xaD] at h;subst h;exact ⟨[],by simpa using Reps.nil,trivial⟩
 | p::r,off,c,hx,h,hl=>by
  simp only [yd] at h
  split at h
  .rename_i ho;obtain ⟨c1,h1,h⟩:=xan.1 h
   split at h
   .rename_i hc;obtain ⟨c2,h2,rfl⟩:=xab.1 h;obtain ⟨x,hx1⟩:=hx p (by simp)
    rw [ho,hc] at hx1;obtain ⟨p1,r1,f1⟩:=ih (λv hv=>List.mem_of_mem_drop (xbx hv)) hx1 h1
    obtain ⟨p2,r2,f2⟩:=yg ih r (off+c1.length) c2 (λq hq=>hx q (by simp [hq])) h2 (by simp at hl;omega)
    refine ⟨p1++p2,?_,f1.app f2⟩;have e:(cs.drop off).take (c1++c2).length=(cs.drop off).take c1.length++(cs.drop (off+c1.length)).take c2.length:=by
     rw [xad,List.take_add,xbM]
    rw [e];exact r1.append r2
   .cases h
  .cases h
theorem yh {B:Nat->Prop} (hB:∀ b,b < w.heap.size->B b):∀ (n fuel:Nat) (sl:Nat) {t:TypeId} {cs:List Value} {x:DataW H × List MemPlace} {c:List CP},
  DataW.trod enc P w base sp held fuel t cs=some x->yq P n sl t=some c->∃ ps,Reps w B cs ps/\FitAll (Fit n) c ps
 | 0,_,_,_,_,_,_,_,h=>by simp [yq] at h
 | _+1,0,_,_,_,_,_,h,_=>by simp [DataW.trod] at h
 | n+1,fuel+1,sl,t,cs,x,c,h,hc=>by
  have mono:∀ {c:List CP} {ps:List PV},FitAll (Fit n) c ps->FitAll (Fit (n+1)) c ps:=by
   have one:∀ (m:Nat) (c:CP) (p:PV),Fit m c p->Fit (m+1) c p:=by
    intro m
    induction m with
    | zero=>intro c p h;cases c<;>first|exact h|exact h.elim
    | succ m ihm=>
     intro c p h
     cases c with
     | b=>exact h
     | i k=>exact h
     | s=>exact h
     | sl ag cs=>
      obtain ⟨xs,h1,h2⟩:=h
      refine ⟨xs,h1,λx hx=>?_⟩
      obtain ⟨l,h3,h4⟩:=h2 x hx
      refine ⟨l,h3,?_⟩
      have:∀ (a:List CP) (b:List PV),FitAll (Fit m) a b->FitAll (Fit (m+1)) a b:=by
       intro a
       induction a with
       | nil=>intro b hb;cases b<;>exact hb
       | cons y r ihr=>
        intro b hb
        cases b with
        | nil=>exact hb
        | cons z q=>exact ⟨ihm _ _ hb.1,ihr _ hb.2⟩
      exact this _ _ h4
   intro c
   induction c with
   | nil=>intro ps h;cases ps<;>exact h
   | cons y r ihr=>
    intro ps h
    cases ps with
    | nil=>exact h
    | cons z q=>exact ⟨one _ _ _ h.1,ihr h.2⟩
  unfold DataW.trod at h
  unfold yq at hc
  cases hu:P.underlying t with
  | none=>rw [hu] at hc;cases hc
  | some d=>
   rw [hu] at h hc
   match d,h,hc with
   | .bool,h,hc=>
    simp only [xaD] at hc;subst hc
    match cs,h with
    | [.bool b],h=>exact ⟨[.b b],Reps.cons (.b b) Reps.nil,⟨b,rfl⟩,trivial⟩
   | .int k,h,hc=>
    simp only [xaD] at hc;subst hc
    match cs,h with
    | [.int k' m],h=>
     simp only at h
     split at h
     .rename_i hk
      obtain ⟨rfl,hw⟩:=hk
      exact ⟨[.i k' m],Reps.cons (.i (yaP hw)) Reps.nil,⟨m,rfl⟩,trivial⟩
     .cases h
   | .string,h,hc=>
    simp only [xaD] at hc;subst hc
    match cs,h with
    | [.string z],h=>
     simp only at h
     split at h
     .rename_i hk
      exact ⟨[.s z],Reps.cons (.s hk) Reps.nil,⟨z,rfl⟩,trivial⟩
     .cases h
   | .slice e,h,hc=>
    simp only at hc
    cases sl with
    | zero=>cases hc
    | succ sl=>
     obtain ⟨ce,h1,hc⟩:=xan.1 hc
     split at hc
     .rename_i hce
      simp only [xaD] at hc;subst hc
      match cs,h with
      | [.slice none 0 0],h=>exact ⟨[.sl ce.length []],Reps.cons .sl0 Reps.nil,⟨[],rfl,λx hx=>by cases hx⟩,trivial⟩
      | [.slice (some a) len cap],h=>
       simp only at h
       split at h
       .rename_i hb
        obtain ⟨els,h2,_⟩:=xan.1 h
        by_cases hl0:len=0
        .subst hl0
         exact ⟨[.sl ce.length []],Reps.cons (.sle hb.2.2) Reps.nil,⟨[],rfl,λx hx=>by cases hx⟩,trivial⟩
        have hBa:B a.block/\a.spot=none:=by
         obtain ⟨y,hy⟩:=yf h2 0 (xaQ.2 (by omega))
         obtain ⟨us,h3,h4⟩:=xan.1 hy
         unfold World.cells? at h3
         split at h3
         .have h5:=yC h3 (i:=0) (x:=0) (List.getElem?_range (by rw [hce.1];exact hce.2.2))
          have h6:us.length=P.cellsOf e:=by simpa using ya h3
          have h7:0 < us.length:=by rw [h6,hce.1];exact hce.2.2
          rw [xac h7] at h5
          have e0:∀ z:Addr,z.add 0=z:=λz=>by unfold Addr.add;simp
          rw [Nat.zero_mul,e0,e0] at h5
          obtain ⟨k1,k2⟩:=yai h5
          exact ⟨hB _ k1,k2⟩
         .cases h3
        have key:∀ i,i < len->∃ (us:List Value) (ps:List PV),(∀ j v,us[j]?=some v->w.cell? (a.add (i*ce.length+j))=some v)/\Reps w B us ps/\FitAll (Fit n) ce ps:=λi hi=>by
         obtain ⟨y,hy⟩:=yf h2 i (xaQ.2 hi)
         obtain ⟨us,h3,h4⟩:=xan.1 hy
         obtain ⟨ps,h5,h6⟩:=yh (B:=B) hB n fuel sl h4 h1
         refine ⟨us,ps,λj v hv=>?_,h5,h6⟩
         unfold World.cells? at h3
         split at h3
         .have hlen:j < P.cellsOf e:=by
           have e1:us.length=P.cellsOf e:=by
            have:=ya h3
            simpa using this
           rw [<-e1];exact (xaa.1 hv).1
          have:=yC h3 (List.getElem?_range hlen)
          rw [hv] at this
          rw [hce.1] at this
          rw [<-Addr.add_add];exact this
         .cases h3
        classical
        let U:Nat->List Value:=λi=>if hi:i < len then (key i hi).choose else []
        let PS:Nat->List PV:=λi=>if hi:i < len then (key i hi).choose_spec.choose else []
        have hU:∀ i,i < len->(∀ j v,(U i)[j]?=some v->w.cell? (a.add (i*ce.length+j))=some v)/\Reps w B (U i) (PS i)/\FitAll (Fit n) ce (PS i):=λi hi=>by
         have:=(key i hi).choose_spec.choose_spec
         simp only [U,PS,dif_pos hi];exact this
        have hcells:∀ i,i < len->(yA (yb P e) (PS i)).cells=PS i:=λi hi=>by
         unfold yA
         split
         .rfl
         .rename_i hag
          have hl:=(hU i hi).2.2
          have h1l:ce.length=1:=hce.2.1.resolve_left hag
          obtain ⟨q,rfl⟩:∃ q,ce=[q]:=List.length_eq_one_iff.1 h1l
          match hPS:PS i,hl with
          | [z],hl=>
           have hz:=hl.1
           simp only [List.headD_cons]
           cases q with
           | b=>cases n<;>(obtain ⟨_,rfl⟩:=hz;rfl)
           | i k=>cases n<;>(obtain ⟨_,rfl⟩:=hz;rfl)
           | s=>cases n<;>(obtain ⟨_,rfl⟩:=hz;rfl)
           | sl ag cs=>
            cases n with
            | zero=>exact hz.elim
            | succ n=>obtain ⟨_,rfl,_⟩:=hz;rfl
        refine ⟨[.sl ce.length ((List.range len).map λi=>yA (yb P e) (PS i))],Reps.cons (.sl (λi j=>(U i)[j]?.getD undef) hBa.1 hBa.2 (by simp) hb.2.1 hb.2.2 ?_ ?_ ?_) Reps.nil,⟨_,rfl,λx hx=>?_⟩,trivial⟩
        .intro i x hx
         simp only [xal,xab] at hx
         obtain ⟨i',hi',rfl⟩:=hx
         obtain ⟨hi,rfl⟩:=xaa.1 hi'
         simp only [xaS,List.getElem_range] at hi ⊢
         rw [hcells i hi,(hU i hi).2.2.len]
        .intro i x j p hx hp
         simp only [xal,xab] at hx
         obtain ⟨i',hi',rfl⟩:=hx
         obtain ⟨hi,rfl⟩:=xaa.1 hi'
         simp only [xaS,List.getElem_range] at hi hp ⊢
         rw [hcells i hi] at hp
         obtain ⟨v,hv,_⟩:=(hU i hi).2.1.get hp
         rw [hv];exact (hU i hi).1 j v hv
        .intro i x j p hx hp
         simp only [xal,xab] at hx
         obtain ⟨i',hi',rfl⟩:=hx
         obtain ⟨hi,rfl⟩:=xaa.1 hi'
         simp only [xaS,List.getElem_range] at hi hp ⊢
         rw [hcells i hi] at hp
         obtain ⟨v,hv,hr⟩:=(hU i hi).2.1.get hp
         rw [hv];exact hr
        .obtain ⟨i,hi,rfl⟩:=xaM.1 hx
         exact ⟨_,rfl,(hU i (xaQ.1 hi)).2.2⟩
       .cases h
     .cases hc
   | .struct fs,h,hc=>
    simp only at h hc
    obtain ⟨c',h1,hc⟩:=xan.1 hc
    split at hc
    .rename_i hl
     simp only [xaD] at hc;subst hc
     split at h
     .rename_i hcs
      obtain ⟨xs,h2,_⟩:=xab.1 h
      obtain ⟨ps,h3,h4⟩:=yg (B:=B) (cs:=cs) (n:=n) (sl:=sl) (λhsub hx hc=>yh hB n fuel sl hx hc) (fs.toList.map λf=>(f.type,f.offset)) 0 c' (λp hp=>by
       obtain ⟨f,hf,rfl⟩:=xaM.1 hp
       exact yf h2 f hf) h1 (by omega)
      rw [xbH,hl,<-hcs,xai] at h3
      exact ⟨ps,h3,mono h4⟩
     .cases h
    .cases hc
   | .array m e,h,hc=>
    simp only at h hc
    obtain ⟨c',h1,hc⟩:=xan.1 hc
    split at hc
    .rename_i hl
     simp only [xaD] at hc;subst hc
     split at h
     .rename_i hcs
      obtain ⟨xs,h2,_⟩:=xab.1 h
      obtain ⟨ps,h3,h4⟩:=yg (B:=B) (cs:=cs) (n:=n) (sl:=sl) (λhsub hx hc=>yh hB n fuel sl hx hc) ((List.range m).map λi=>(e,i*P.cellsOf e)) 0 c' (λp hp=>by
       obtain ⟨i,hi,rfl⟩:=xaM.1 hp
       exact yf h2 i hi) h1 (by omega)
      rw [xbH,hl,<-hcs,xai] at h3
      exact ⟨ps,h3,mono h4⟩
     .cases h
    .cases hc
end
open Go.ChangeShapes Go.WideShapes Go.ChangeAt Go.RowKit Go.Proofs.Tryz
def yaU (P:Program) (n:Nat) (t:TypeId):Option (Bool × List CP):=(yq P n 2 t).bind λc=>if yb P t=true\/c.length=1 then some (yb P t,c) else none
def yt (P:Program) (n:Nat) (t:TypeId) (p:PV):Prop:=
 (∃ ag c l,yaU P n t=some (ag,c)/\p=yA ag l/\FitAll (Fit n) c l)/\(∀ e sz xs,P.underlying t=some (.slice e)->p=.sl sz xs->xs.length*P.bytesOf e<=reachBytes)
def yG (P:Program) (n:Nat):List TypeId->List PV->Prop
 | [],[]=>True
 | t::ts,p::ps=>yt P n t p/\yG P n ts ps
 | _,_=>False
section
variable {H:Type} {enc:TypeId × Value->H} {P:Program} {W:World}
def yaT {base n:Nat} {t:TypeId} {v:Value} {d:DataW H} {ps:List MemPlace} (hval:Value.okWide P W .any base t v) (h:DataW.Trod enc P W 0 (λ_=>true) true t v d ps) {q:Bool × List CP} (hq:yaU P n t=some q)
  (hz:(d.weights P t).all (·<=reachBytes)=true):∃ p,Rep W (λb=>b < W.heap.size) v p/\yt P n t p:=by
 obtain ⟨fuel,h⟩:=h
 have hq0:=hq
 unfold yaU at hq
 obtain ⟨c,hc,hq⟩:=xan.1 hq
 split at hq
 .rename_i hl
  simp only [xaD] at hq
  subst hq
  unfold yb at hl hq0
  have key:∀ {cs:List Value},DataW.trod enc P W 0 (λ_=>true) true fuel t cs=some (d,ps)->(∀ v ∈ cs,∃ u,Cell.okWide P W .any base u v)->∃ l,Reps W (λb=>b < W.heap.size) cs l/\FitAll (Fit n) c l:=λht hc1=>
   yh (λ_ h=>h) n fuel 2 ht hc
  have other:yb P t=false->(∃ u,Cell.okWide P W .any base u v)->v.cells.toList=[v]->∃ p,Rep W (λb=>b < W.heap.size) v p/\yt P n t p:=λhag hok hcv=>by
   rw [hcv] at h
   obtain ⟨l,h1,h2⟩:=key h (λv' hv=>by simp at hv;subst hv;exact hok)
   have hlen:=h1.1
   match l,hlen with
   | [p],_=>
    have hr:=h1.2 0 v p rfl rfl
    refine ⟨p,hr,⟨false,c,[p],?_,rfl,h2⟩,λe sz xs hu he=>?_⟩
    .rw [hq0]
     have:yb P t=false:=hag
     unfold yb at this
     rw [this]
    .subst he
     cases hr with
     | sl0=>simp
     | sle=>simp
     | sl u h3 h4 h5 h6 h7 h8 h9 h10=>
      rename_i a len cap hh
      cases fuel with
      | zero=>simp [DataW.trod] at h
      | succ fuel=>
       unfold DataW.trod at h
       rw [hu] at h
       simp only at h
       split at h
       .obtain ⟨els,e1,h⟩:=xan.1 h
        obtain ⟨rest,e2,h⟩:=xab.1 h
        injection h with hd _
        subst hd
        have:=xaL.1 hz ((els.length+rest.length)*P.bytesOf e) (by simp [DataW.weights,hu])
        simp only [decide_eq_true_eq] at this
        have hle:els.length=len:=by simpa using ya e1
        rw [h5,<-hle]
        exact xaY (xbg _ (Nat.le_add_right _ _)) this
       .cases h
  unfold Value.okWide at hval
  cases hu:P.underlying t with
  | none=>unfold yq at hc;cases n<;>simp [hu] at hc
  | some desc=>
   have ag:(∃ fs,desc=.struct fs)\/(∃ k e,desc=.array k e)\/(yb P t=false/\Cell.okWide P W .any base t v):=by
    unfold yb
    rw [hu] at hval ⊢
    cases desc<;>first|exact .inl ⟨_,rfl⟩|exact .inr (.inl ⟨_,_,rfl⟩)|exact .inr (.inr ⟨rfl,hval⟩)
   have agg:yb P t=true->(∃ cs,v=.agg cs/\cs.size=P.cellsOf t/\Row.okWide P W .any base t cs)->∃ p,Rep W (λb=>b < W.heap.size) v p/\yt P n t p:=λhag hcs=>by
    obtain ⟨cs,rfl,_,hrow⟩:=hcs
    obtain ⟨l,h1,h2⟩:=key (cs:=cs.toList) h (λv' hv=>by
     obtain ⟨ts,_,_,hcell⟩:=hrow
     obtain ⟨i,hi⟩:=xa8 hv
     obtain ⟨u,_,hk⟩:=hcell i v' (by simpa using hi)
     exact ⟨u,hk⟩)
    refine ⟨.agg l,.agg (by simpa using h1.1) (λj v' p hv hp=>h1.2 j v' p (by simpa using hv) hp),⟨true,c,l,?_,rfl,h2⟩,λe sz xs hu' he=>by cases he⟩
    rw [hq0]
    have:yb P t=true:=hag
    unfold yb at this
    rw [this]
   rcases ag with ⟨fs,rfl⟩|⟨k,e,rfl⟩|⟨hag,hok⟩
   .rw [hu] at hval
    exact agg (by unfold yb;rw [hu]) hval
   .rw [hu] at hval
    exact agg (by unfold yb;rw [hu]) hval
   .refine other hag ⟨t,hok⟩ ?_
    have:∀ cs,v≠.agg cs:=λcs e=>by
     subst e
     unfold Cell.okWide at hok
     have h2:Cell.ok P W .any base t (.agg cs):=by
      split at hok
      all_goals first|exact hok|(rename_i hv;cases hv)
     unfold Cell.ok at h2
     split at h2
     all_goals first|exact h2.elim|skip
     all_goals (rename_i hv;first|cases hv|skip)
    cases v<;>first|rfl|exact absurd rfl (this _)
 .cases hq
theorem yK {base n:Nat}:∀ {ts:List TypeId} {vs:List Value} {ds:List (DataW H)} {ps:List MemPlace},DataW.TrodAll enc P W 0 (λ_=>true) true ts vs ds ps->(∀ (j:Nat) t v,ts[j]?=some t->vs[j]?=some v->Value.okWide P W .any base t v) ->
  (∀ t ∈ ts,∃ q,yaU P n t=some q)->(DataW.weightsEach P ts ds).all (·<=reachBytes)=true->∃ l,Reps W (λb=>b < W.heap.size) vs l/\yG P n ts l
 | [],vs,ds,ps,h,_,_,_=>by
  obtain ⟨rfl,rfl,rfl⟩:=trodAll_nil h;exact ⟨[],Reps.nil,trivial⟩
 | t::ts,vs,ds,ps,h,hval,hq,hz=>by
  obtain ⟨v,vs1,d,ds1,a,b,rfl,rfl,rfl,h1,h2⟩:=trodAll_cons h;obtain ⟨q,hq1⟩:=hq t (by simp)
  simp only [DataW.weightsEach,List.all_append,xaB] at hz;obtain ⟨p,r1,f1⟩:=yaT (n:=n) (hval 0 t v rfl rfl) h1 hq1 hz.1;obtain ⟨l,r2,f2⟩:=yK h2 (λj t v ht hv=>hval (j+1) t v (by simpa using ht) (by simpa using hv)) (λt ht=>hq t (by simp [ht])) hz.2
  exact ⟨p::l,Reps.cons r1 r2,f1,f2⟩
theorem ye (hl:laidOutB P=true) {W':World} {sp:Nat->Bool}:∀ {ts:List TypeId} {vs:List Value} {ds:List (DataW H)} {ps:List MemPlace},ts.all (λt=>P.readableRec t && decide (t < P.types.size))=true->DataW.TrodAll enc P W 0 (λ_=>true) true ts vs ds ps ->
  (∀ x ∈ ps,W.sameAt W' x)->(∀ x ∈ ps,sp x.block=true)->DataW.TrodAll enc P W' 0 sp true ts vs ds ps
 | [],vs,ds,ps,_,h,_,_=>by
  obtain ⟨rfl,rfl,rfl⟩:=trodAll_nil h;exact h
 | t::ts,vs,ds,ps,hr,h,hs,hp=>by
  obtain ⟨v,vs1,d,ds1,a,b,rfl,rfl,rfl,h1,h2⟩:=trodAll_cons h;simp only [List.all_cons,xaB,decide_eq_true_eq] at hr;exact ⟨a,b,WideElems.Trod_stays hl hr.1.1 hr.1.2 h1 (λx hx=>hs x (by simp [hx])) (λx hx=>hp x (by simp [hx])),ye hl hr.2 h2 (λx hx=>hs x (by simp [hx])) (λx hx=>hp x (by simp [hx])),rfl⟩
def yQ {W':World} (hb:Below W.heap.size W W') (may:MemPlace->Prop):W.keptBut W' may:=by
 refine ⟨hb.os,hb.output,λi hi=>?_⟩
 rw [hb.block i hi];cases hh:W.heap[i]? with
 | none=>rfl
 | some o=>cases o<;>first|exact ⟨rfl,rfl,rfl,λ_ _=>rfl⟩|exact .inr ⟨rfl,rfl⟩|rfl
def yO {f:Func} {s:ChangeSpec} {apart fresh handsOn again:Bool} {W':World} {args:Array Value} {ds gs:List (DataW H)} {before:List MemPlace} {tb:TypeId} (hl:laidOutB P=true)
  (hrd:f.params.toList.all (λt=>P.readableRec t && decide (t < P.types.size))=true) (hW:DataW.Whole enc P f.params.toList s.vars apart W args.toList ds gs before) (hv:s.vars=[])
  (hs:s.fn H ds={ results:=[.lit (.bool true)],args:=ds }) (hr:f.resultTypes=#[tb]) (htb:P.underlying tb=some .bool) (hb:Below W.heap.size W W'):s.post enc P f apart fresh handsOn again W args (.bool true) W':=by
 have hlt:∀ p ∈ before,p.block < W.heap.size:=hW.lt;have hW0:=hW;obtain ⟨p,q,hA,hV,rfl,hz,hn⟩:=hW;rw [hv] at hV;obtain ⟨rfl,rfl⟩:=trodVars_none hV;simp only [xat] at hz hn hlt hW0;have hres:∀ (b:Nat) (sp:Nat->Bool) (hd:Bool),DataW.TrodAll enc P W' b sp hd f.resultTypes.toList ((Value.bool true).resultList f.resultTypes.size) [.lit (.bool true)] []:=λb sp hd=>by
  rw [hr];exact trodAll_cons_mk (shut_bool htb _) trodAll_mk0
 have hargs:∀ sp:Nat->Bool,(∀ x ∈ p,sp x.block=true)->DataW.TrodAll enc P W' 0 sp true f.params.toList args.toList ds p:=λsp hsp=>ye hl hrd hA (λx hx=>hb.same (hlt x hx)) hsp
 have hvars:∀ sp:Nat->Bool,DataW.TrodVars enc P W' sp s.vars ([]:List (DataW H)) []:=λsp=>by rw [hv];rfl
 refine ⟨ds,[],p,[],p,[],hW0,by rw [xat,hs];exact hres _ _ _,by rw [xat,hs];exact hargs _ (λx hx=>by simpa using hlt x hx),by rw [xat,hs];exact hvars _,World.keptBut_mono (λx hx=>⟨hx,.inr (.inl hx)⟩) (yQ hb (· ∈ p)),λ_=>?_⟩
 refine ⟨λj t r h1 h2=>?_,[.lit (.bool true)]++ds,[],p,⟨[]++p,[],trodAll_append (hargs _ (λ_ _=>rfl)) (hres _ _ _),hvars _,by simp,?_,?_⟩,λx hx _=>hx⟩
 .rw [hr] at h1 h2;cases j with
  | zero=>
   simp [Value.resultList] at h1 h2;subst h1;subst h2;exact okWide_bool_mk htb _
  | succ j=>simp at h1
 .intro b off hp;have:=hz b off hp;unfold World.frozen? at this ⊢;have e:W'.heap[b]?=W.heap[b]?:=hb.block b (hlt _ hp);simp only at this ⊢;rw [e];exact this
 .intro ha;exact hn ha
end
def yz {C:Checked} {f:FuncId} {fn:Func} {s:ChangeSpec} {n:Nat} {tb:TypeId} (hl:laidOutB C.prog=true) (hrd:fn.params.toList.all (λt=>C.prog.readableRec t && decide (t < C.prog.types.size))=true)
  (hv:s.vars=[]) (hs:∀ (H:Type) (ds:List (DataW H)),ds.length=fn.params.size->s.fn H ds={ results:=[.lit (.bool true)],args:=ds }) (hr:fn.resultTypes=#[tb]) (htb:C.prog.underlying tb=some .bool)
  (hq:fn.params.toList.all (λt=>(yaU C.prog n t).isSome)=true) (hp:∀ ps,yG C.prog n fn.params.toList ps->Pure C.prog f ps (.b true))
  {H:Type} {enc:TypeId × Value->H} {apart fresh handsOn again:Bool} (W:World) (base:Nat) (args:Array Value) (ds gs:List (DataW H)) (before:List MemPlace)
  (hval:∀ (j:Nat) t v,fn.params[j]?=some t->args[j]?=some v->Value.okWide C.prog W .any base t v) (hW:DataW.Whole enc C.prog fn.params.toList s.vars apart W args.toList ds gs before)
  (hz:(DataW.weightsEach C.prog (fn.params.toList++s.plain.varTypes C.prog) (ds++gs)).all (·<=reachBytes)=true) :
  Calls C.prog f args W λe W'=>∃ v,e=.returned v/\s.post enc C.prog fn apart fresh handsOn again W args v W':=by
 have hW0:=hW;obtain ⟨p,q,hA,hV,rfl,_,_⟩:=hW;have hV':=hV;rw [hv] at hV';obtain ⟨rfl,rfl⟩:=trodVars_none hV';have hlen:∀ {ts:List TypeId} {vs:List Value} {ds:List (DataW H)} {ps:List MemPlace},DataW.TrodAll enc C.prog W 0 (λ_=>true) true ts vs ds ps->ds.length=ts.length:=by
  intro ts
  induction ts with
  | nil=>intro vs ds ps h;obtain ⟨rfl,rfl,rfl⟩:=trodAll_nil h;rfl
  | cons t ts ih=>intro vs ds ps h;obtain ⟨v,vs1,d,ds1,a,b,rfl,rfl,rfl,h1,h2⟩:=trodAll_cons h;simp [ih h2]
 have hd:=hlen hA;have hz':(DataW.weightsEach C.prog fn.params.toList ds).all (·<=reachBytes)=true:=by
  rw [xat] at hz;have hsub:∀ (ts us:List TypeId) (ds:List (DataW H)),ds.length=ts.length->DataW.weightsEach C.prog (ts++us) ds=DataW.weightsEach C.prog ts ds:=by
   intro ts us
   induction ts with
   | nil=>intro ds h;match ds,h with|[],_=>cases us<;>simp [DataW.weightsEach]
   | cons t ts ih=>intro ds h;match ds,h with|d::ds,h=>simp only [xaH,DataW.weightsEach];rw [ih ds (by simpa using h)]
  rw [hsub _ _ _ hd] at hz;exact hz
 obtain ⟨l,hrep,hfit⟩:=yK (n:=n) hA (λj t v ht hv'=>hval j t v (by simpa using ht) (by simpa using hv')) (λt ht=>Option.isSome_iff_exists.1 (xaL.1 hq t ht)) hz'
 have:=(hp l hfit).2 W (λb=>b < W.heap.size) args.toList (λb hb=>hb) hrep
 refine (show Calls C.prog f args W _ from by simpa using this).mono λe W' he=>?_
 obtain ⟨u,rfl,hb,hu⟩:=he;cases hu;exact ⟨_,rfl,yO hl hrd hW0 hv (hs H ds (by simpa using hd)) hr htb hb⟩
open Go.RowKit Go.Proofs.Tryz
def yr (x:ByteArray):Pure prog 115 [.s x] (.b (zcs x)):=by
 refine pz func115 f115.eq_1 λhw X hX=>?_
 simp only [wfs,PV.wf,maxLen] at hw
 repeat' first|refine gC ?_ ?_<;>intro hc<;>try contradiction|refine gG ?_|show AK _;intro J Z|refine gJ ?_|omega|exact aT
 .rw [zlC hc];exact .refl _
 refine zh (κ:=Nat) (λi=>⟨[(0,.p (.s x)),(3,.p (.i .i64 i))],[],[],false⟩) (λi=>i<=x.size/\∀ j < i,zhz j (zpe x j)=true) (λi=>x.size - i) 0 ?_ ?_ ?_
 .exact sR
 .simp
 .intro i hi
  repeat' first|refine gC ?_ ?_<;>intro hc<;>try contradiction|refine gG ?_|show AK _;intro J Z|refine gJ ?_|omega|exact aT
  .rw [zq4 (i:=i) (by omega)];exact .refl _
   simp only [zhz,zyy,zpe];simp;omega
  .refine ⟨i+1,⟨by omega,λj hj=>?_⟩,by omega,by simp⟩
   by_cases e:j=i
   .subst e;simp only [zhz,zyy,zpe];simp;omega
   .exact hi.2 j (by omega)
  .rw [zop ‹_› hi (by omega)];exact .refl _
def y4 (n a b:Int):Pure prog 219 [.i .i64 n,.i .i64 a,.i .i64 b] (.i .i64 (rng n a b)):=by
 refine pz func219 f219.eq_1 λhw X hX=>?_
 repeat' first|refine gC ?_ ?_<;>intro hc<;>try contradiction|refine gG ?_|show AK _;intro J Z|refine gJ ?_|omega|exact aT
 .rw [rng,if_pos hc];exact .refl _
 .rw [zdR.2 hc];exact .refl _
def y5 (n:Int):Pure prog 218 [.i .i64 n] (.i .i64 (rng n 0 99999)):=by
 refine pz func218 f218.eq_1 λhw X hX=>?_
 have jA:=λu1 u2 u3=>y4 u1 u2 u3;exact gD2
def yZ (p:Per):Pure prog 172 [p.pv] (.i .i64 (zbx p)):=by
 refine pz func172 f172.eq_1 λhw X hX=>?_
 repeat' first|refine gC ?_ ?_<;>intro hc<;>try contradiction|refine zg (λ_=>y5 _) ?_|refine za (y5 _) ?_|refine za (y4 _ _ _) ?_|refine gG ?_|show AK _;intro J Z|refine gJ ?_|omega|exact aT
 .rw [show zbx p=3 by simp only [zbx,zn,rng];(repeat' split)<;>omega];exact .refl _
 .rw [show zbx p=11 by simp only [zbx,zn,rng];(repeat' split)<;>omega];exact .refl _
 .rw [show zbx p=4 by simp only [zbx,zn,rng];(repeat' split)<;>omega];exact .refl _
 .rw [show zbx p=rng p.days 1 127 by simp only [zbx,zn,rng];(repeat' split)<;>omega];exact .refl _
def yaQ (d:Int) (h0:0<=d) (h1:d<=99999):Pure prog 239 [.i .i64 d] (.i .i64 ((d+5) % 7)):=by
 refine pz func239 f239.eq_1 λhw X hX=>?_
 repeat' first|refine gC ?_ ?_<;>intro hc<;>try contradiction|refine gG ?_|show AK _;intro J Z|refine gJ ?_|omega|exact aT
 rw [xbS (by omega)]
 exact .refl _
def y3 (m w:Int) (h0:0<=m) (h1:m < 128) (h2:0<=w) (h3:w < 7):Pure prog 238 [.i .i64 m,.i .i64 w] (.b (inM m w)):=by
 refine pz func238 f238.eq_1 λhw X hX=>?_
 repeat' first|refine gC ?_ ?_<;>intro hc<;>try contradiction|refine gG ?_|show AK _;intro J Z|refine gJ ?_|omega|exact aT
 refine zh (κ:=Nat) (λi=>⟨[(0,.p (.i .i64 (m / 2 ^ i))),(1,.p (.i .i64 w)),(5,.p (.i .i64 i))],[],[],false⟩) (λi=>i<=w.toNat) (λi=>w.toNat - i) 0 ?_ ?_ ?_
 .exact sS
 .simp
 .intro i hi;have hq:0<=m / 2 ^ i:=xbe h0 (Int.le_of_lt (Int.pow_pos (by decide)))
  have hq2:m / 2 ^ i<=m:=xbq _ h0;have hq3:∀ b,(m / 2 ^ i).tdiv b=(m / 2 ^ i) / b:=λb=>xbo hq
  have hq4:∀ b,(m / 2 ^ i).tmod b=(m / 2 ^ i) % b:=λb=>xbS hq
  have qe:=aI @hq3 @hq4;repeat' first|refine gC ?_ ?_<;>intro hc<;>try contradiction|refine gG ?_|show AK _;intro J Z|refine gJ ?_|omega|exact aT
  .refine ⟨i+1,by omega,by omega,?_,by simp⟩
   rw [Int.pow_succ,Int.ediv_ediv_of_nonneg (Int.le_of_lt (Int.pow_pos (by decide)))]
  .have e:i=w.toNat:=by omega
   subst e;exact .refl _
def yaR (p:Per) (d:Int) (h0:0<=d) (h1:d<=99999) (h2:0<=p.days) (h3:p.days < 128):Pure prog 198 [p.pv,.i .i64 d] (.b (zBv p d)):=by
 refine pz func198 f198.eq_1 λhw X hX=>?_
 have qe:=@qR;repeat' first|refine gC ?_ ?_<;>intro hc<;>try contradiction|refine zg (λ_=>yaQ _ h0 h1) ?_|(show zp _ _ _ _ (⟨_,.call 238,_,_,_⟩::_) _ _;refine zkX (hf:=λhc=>(by first|exact y3 p.days ((d+5) % 7) h2 h3 (by omega) (by omega)|(simp only [qH,zdR] at hc;exact y3 p.days ((d+5) % 7) h2 h3 (by omega) (by omega)))) (hn:=?_))|refine gG ?_|show AK _;intro J Z|refine gJ ?_|omega|exact aT
 all_goals exact .refl _
def yab {p:Per} (k:Nat) (h:k < (p.to - p.fro+1).toNat):zBv p (p.fro+k)=inM p.days ((p.fro+k+5) % 7):=by
 simp only [zBv,show p.fro<=p.fro+(k:Int) by omega,show p.fro+(k:Int)<=p.to by omega,decide_true,xbb]
def yn (p:Per) (k:Nat):List Int:=(List.range k).flatMap λ(k:Nat)=>if inM p.days ((p.fro+k+5) % 7) then [p.fro+k] else []
def yaf (p:Per) (n:Nat):(yn p n).length<=n:=by
 unfold yn
 induction n with
 | zero=>simp
 | succ n ih=>rw [zbE,xad];split<;>simp only [xaw,xbD]<;>omega
def pure67 (p:Per) (h:zbx p=0):Pure prog 136 [p.pv] (.sl 1 ((zaK p).map (.i .i64))):=by
 have hp:=zaI h;refine pz func136 f136.eq_1 λhw X hX=>?_
 repeat' first|refine gC ?_ ?_<;>intro hc<;>try contradiction|refine gG ?_|show AK _;intro J Z|refine gJ ?_|omega|exact aT
 refine run_ownL 100 3 1 (κ:=Nat) (λk=>⟨[(1,.lp 1 0),(3,.row 100 (yn p k).length),(4,.p (.i .i64 (p.fro+k)))],[(1,.box [.p (.i .i64 p.fro),.p (.i .i64 p.to),.p (.i .i64 p.days)] false),(100,.row 3 1 ((yn p k).map (.i .i64)) false)],[],false⟩) (λk=>k<=(p.to - p.fro+1).toNat) (λk=>(p.to - p.fro+1).toNat - k) 0 ?_ ?_ ?_
 .refine ⟨gO ?_,gO ?_⟩<;>simp [yn]
 .simp
 .intro k hk;have hl:=yaf p k;have qe:=@qR;repeat' first|refine gC ?_ ?_<;>intro hc<;>try contradiction|refine za (yaR p (p.fro+k) (by omega) (by omega) (by omega) (by omega)) ?_|refine gG ?_|show AK _;intro J Z|refine gJ ?_|omega|exact aT
  .have e:yn p (k+1)=yn p k++[p.fro+(k:Int)]:=by
    rw [yab k (by omega)] at hc;simp only [yn,zbE,hc,if_true]
   refine ⟨k+1,by omega,by omega,⟨by rw [e];simp,by simp;omega⟩,by rw [e];simp⟩
  .have e:yn p (k+1)=yn p k:=by
    rw [yab k (by omega)] at hc;simp only [yn,zbE,hc];simp
   refine ⟨k+1,by omega,by omega,⟨by rw [e],by simp;omega⟩,by rw [e]⟩
  .have e:k=(p.to - p.fro+1).toNat:=by omega
   subst e;exact .refl _
def pure81 (s:ByteArray):Pure prog 170 [.s s] (.b (decide (s=s0) || zcs s)):=by
 refine pz func170 f170.eq_1 λhw X hX=>?_
 have jA:=λu1=>yr u1;exact gD2
def yaI (n a b:Int):Pure prog 171 [.i .i64 n,.i .i64 a,.i .i64 b] (.b (decide (n < a) || decide (b < n))):=by
 refine pz func171 f171.eq_1 λhw X hX=>?_
 exact gD0
def yE {e:Int} {r:List Int} (h:e=0):zn (e::r)=zn r:=by rw [zn,if_pos h]
def yD {e:Int} {r:List Int} (h:e≠0):zn (e::r)=e:=by rw [zn,if_neg h]
def rng_3 {n a b:Int} (h:n < a\/b < n):rng n a b=3:=by rw [rng,if_pos h]
def y7 {s:ByteArray} (h:zcs s=true):zfA s=0:=by rw [zfA,if_neg (by simp [h])]
def yB {s:ByteArray} (h:zcs s=false):zfA s=8:=by rw [zfA,if_pos h]
def y6 {s:ByteArray} (h:s=s0\/zcs s=true):zo6 s=0:=by rw [zo6,if_neg];rintro ⟨h1,h2⟩;rcases h with h|h<;>simp_all
def yaK {s:ByteArray} (h:¬s=s0/\zcs s=false):zo6 s=8:=by rw [zo6,if_pos h]
def yae {e k:Int} {r:List Int} (h:e=k) (hk:k≠0):zn (e::r)=k:=by rw [yD (by rw [h];exact hk),h]
def yaV {a b c:Int} (h:0<=a/\a<=999/\0<=b/\b<=9/\0<=c/\c<=99):zyv a b c=0:=by rw [zyv];simp only [zn,rng];(repeat' split)<;>omega
def yaW {k:ByteArray} (h:¬k=sA/\¬k=sD->k=sT):zon k=0:=by rw [zon,if_neg];rintro ⟨h1,h2,h3⟩;exact h3 (h ⟨h1,h2⟩)
def yax {k:ByteArray} (h:(¬k=sA/\¬k=sD)/\¬k=sT):zon k=13:=by rw [zon,if_pos ⟨h.1.1,h.1.2,h.2⟩]
def yac {k:ByteArray} (h:¬k=sA->k=sD):zgM k=0:=by rw [zgM,if_neg];rintro ⟨h1,h2⟩;exact h2 (h h1)
def yR {k:ByteArray} (h:¬k=sA/\¬k=sD):zgM k=13:=by rw [zgM,if_pos h]
def pure20 (r:Req):Pure prog 114 [r.pv] (.i .i64 (zbY r)):=by
 refine pz func114 f114.eq_1 λhw X hX=>?_
 repeat' first|refine gC ?_ ?_<;>intro hc<;>try contradiction|refine za (yr _) ?_|refine za (pure81 _) ?_|refine za (yaI _ _ _) ?_|refine zg (λ_=>yaI _ _ _) ?_|refine za (yZ r.per) ?_|refine gG ?_|show AK _;intro J Z|refine gJ ?_|omega|exact aT
 all_goals (refine weakI (Eq.symm ?_);rw [zbY];(repeat refine Eq.trans (yE (by first|exact y7 (by assumption)|exact yaW (by assumption)|exact yac (by assumption)|exact y6 (by assumption)|exact zdR.2 (by omega)|exact yaV (by omega)|exact if_neg (by omega)|assumption)) ?_);first|rfl|exact yae (by first|exact yB (by assumption)|exact yax (by assumption)|exact yR (by assumption)|exact yaK (by assumption)|exact rng_3 (by omega)|exact if_pos (by omega)|rfl) (by first|decide|assumption)|(simp only [zn,rng,zyv];(repeat' split)<;>omega))
def fewB (p:Per) (n:Int):Bool:=!decide (zbx p=0) || decide (p.to - p.fro < n)
def yaG (p:Per) (n:Int):Pure prog 145 [p.pv,.i .i64 n] (.b (fewB p n)):=by
 refine pz func145 f145.eq_1 λhw X hX=>?_
 by_cases h:zbx p=0
 .have hp:=zaI h;have h':=eq_true h;have qe:=@h';repeat' first|refine gC ?_ ?_<;>intro hc<;>try contradiction|refine za (yZ p) ?_|refine gG ?_|show AK _;intro J Z|refine gJ ?_|omega|exact aT
  simp only [fewB,h',decide_true,xaU,xcp];exact .refl _
 .have h':=eq_false h;have qe:=@h';repeat' first|refine gC ?_ ?_<;>intro hc<;>try contradiction|refine za (yZ p) ?_|refine gG ?_|show AK _;intro J Z|refine gJ ?_|omega|exact aT
  simp only [fewB,h',decide_false,xaV,Bool.true_or];exact .refl _
def natle (n:Nat):(decide ((n:Int)<=40))=decide (n<=40):=by simp;omega
def shReq (r:Req):Bool:=((decide (r.name.size<=40) && decide (r.kind.size<=40)) && decide (r.term.size<=40)) && fewB r.per 24
def pure17 (r:Req):Pure prog 113 [r.pv] (.b (shReq r)):=by
 refine pz func113 f113.eq_1 λhw X hX=>?_
 repeat' first|refine gC ?_ ?_<;>intro hc<;>try contradiction|refine za (yaG r.per 24) ?_|refine zg (λ_=>yaG r.per 24) ?_|refine gG ?_|show AK _;intro J Z|refine gJ ?_|omega|exact aT
 rw [shReq];refine zhe ?_;simp only [<-natle]
def all_no {α:Type} {l:List α} {p:α->Bool} {i:Nat} {x:α} (hx:l[i]?=some x) (hp:p x=false):l.all p=false:=by
 cases h:l.all p
 .rfl
 .rw [xaL] at h;rw [h x (xae hx)] at hp;exact hp
def yaE {α:Type} {l:List α} {p:α->Bool} {i:Nat} {x:α} (h:∀ y ∈ l.take i,p y=true) (hx:l[i]?=some x) (hp:p x=true):∀ y ∈ l.take (i+1),p y=true:=by
 intro y hy;rw [xaT,hx] at hy
 rcases xaR.1 hy with hy|hy
 .exact h y hy
 .simp at hy;subst hy;exact hp
def ya7 {α:Type} {l:List α} {p:α->Bool} (h:∀ y ∈ l.take l.length,p y=true):l.all p=true:=by
 rw [xai] at h;rw [xaL];exact h
theorem yad {α β:Type} {f:α->List β} {c:Nat}:∀ {l:List α},(∀ x ∈ l,(f x).length<=c)->(l.flatMap f).length<=l.length*c
 | [],_=>by simp
 | x::r,h=>by
  have h1:=h x (by simp)
  have h2:=yad (l:=r) λy hy=>h y (by simp [hy])
  simp only [xas,xad,xaw,Nat.succ_mul];omega
def yaJ (l:List Mov):Pure prog 56 [.sl 7 (l.map Mov.pv),.sl 7 (l.map Mov.pv)] (.b true):=by
 refine pz func56 f56.eq_1 λhw X hX=>?_
 simp only [wfs,PV.wf,xaf,maxLen] at hw;have qe:=aI @zb2 (aI @zbR (aI @zio @zeB));repeat' first|refine gC ?_ ?_<;>intro hc<;>try contradiction|refine gG ?_|show AK _;intro J Z|refine gJ ?_|omega|exact aT
 refine zh (κ:=Nat) (λi=>⟨[(0,.p (.sl 7 (l.map Mov.pv))),(1,.p (.sl 7 (l.map Mov.pv))),(5,.p (.i .i64 i))],[],[],false⟩) (λi=>i<=l.length) (λi=>l.length - i) 0 ?_ ?_ ?_
 .exact sR
 .simp
 .intro i hi
  repeat first|refine gG ?_|show AK _;intro J Z|refine gJ ?_|omega|exact aT
  (refine gC ?_ ?_<;>intro hc<;>try contradiction)
  .obtain ⟨x,hx⟩:=zj (i:=i) (l:=l) (by omega)
   have qe:=aI @hx (aI @zb2 (aI @zbR (aI @zio @zeB)));repeat' first|refine gC ?_ ?_<;>intro hc<;>try contradiction|refine gG ?_|show AK _;intro J Z|refine gJ ?_|omega|exact aT
   exact ⟨i+1,by omega,by omega,by simp⟩
  .exact gD0
def yaH (l:List Int) (x:Int):Pure prog 46 [.sl 1 (l.map (.i .i64)),.i .i64 x] (.b (decide (x ∈ l))):=by
 refine pz func46 f46.eq_1 λhw X hX=>?_
 simp only [wfs,PV.wf,xaf,maxLen] at hw
 repeat' first|refine gC ?_ ?_<;>intro hc<;>try contradiction|refine gG ?_|show AK _;intro J Z|refine gJ ?_|omega|exact aT
 refine zh (κ:=Nat) (λi=>⟨[(0,.p (.sl 1 (l.map (.i .i64)))),(1,.p (.i .i64 x)),(5,.p (.i .i64 i))],[],[],false⟩) (λi=>i<=l.length/\∀ y ∈ l.take i,¬y=x) (λi=>l.length - i) 0 ?_ ?_ ?_
 .exact sR
 .simp
 .intro i hi
  repeat first|refine gG ?_|show AK _;intro J Z|refine gJ ?_|omega|exact aT
  (refine gC ?_ ?_<;>intro hc<;>try contradiction)
  .obtain ⟨y,hy⟩:=zj (i:=i) (l:=l) (by omega)
   have qe:=@hy;repeat' first|refine gC ?_ ?_<;>intro hc<;>try contradiction|refine gG ?_|show AK _;intro J Z|refine gJ ?_|omega|exact aT
   .subst hc;rw [decide_eq_true (xae hy)];exact .refl _
   .refine ⟨i+1,⟨by omega,λz hz=>?_⟩,by omega,by simp⟩
    rw [xaT,hy] at hz
    rcases xaR.1 hz with h|h
    .exact hi.2 z h
    .simp at h;subst h;exact hc
  .repeat' first|refine gC ?_ ?_<;>intro hc<;>try contradiction|refine gG ?_|show AK _;intro J Z|refine gJ ?_|omega|exact aT
   have e:i=l.length:=by omega
   subst e;rw [decide_eq_false (λh=>hi.2 x (by rw [xai];exact h) rfl)];exact .refl _
def pure21 (r:Req) (h:zbY r=0):Pure prog 138 [r.pv] (.sl 7 ((zhk r).map Mov.pv)):=by
 have hr:=zeR h;have hp:=zaI hr.1;have hdl:=zeN r.per;refine pz func138 f138.eq_1 λhw X hX=>?_
 have qe:=@qR;repeat' first|refine gC ?_ ?_<;>intro hc<;>try contradiction|refine za (pure67 r.per hr.1) ?_|refine gG ?_|show AK _;intro J Z|refine gJ ?_|omega|exact aT
 refine run_ownL 100 194 7 (κ:=Nat) (λk=>⟨[(1,.lp 1 0),(3,.p (.sl 1 ((zaK r.per).map (.i .i64)))),(4,.row 100 ((zaK r.per).take k).length),(5,.p (.i .i64 k))],[(1,.box ([.s r.name,.s r.carrier,.s r.kind,.s r.term,.s r.partner,.s r.link,.i .i64 r.per.fro,.i .i64 r.per.to,.i .i64 r.per.days,.i .i64 r.minute,.i .i64 r.seats,.i .i64 r.size,.i .i64 r.noise].map .p) false),(100,.row 194 7 ((((zaK r.per).take k).map (zj0 r)).map Mov.pv) false)],[],false⟩) (λk=>k<=(zaK r.per).length) (λk=>(zaK r.per).length - k) 0 ?_ ?_ ?_
 .refine ⟨gO ?_,gO ?_⟩<;>simp
 .simp
 .intro k hk
  repeat first|refine gG ?_|show AK _;intro J Z|refine gJ ?_|omega|exact aT
  (refine gC ?_ ?_<;>intro hc<;>try contradiction)
  .obtain ⟨d,hx⟩:=zj (i:=k) (l:=zaK r.per) (by omega)
   have hdm:=zeM (xae hx);have hlt:=zfJ hx;have qe:=aI qR @hx;repeat' first|refine gC ?_ ?_<;>intro hc<;>try contradiction|refine gG ?_|show AK _;intro J Z|refine gJ ?_|omega|exact aT
   exact ⟨k+1,by omega,by omega,⟨by rw [xaT,hx,xad];rfl,by simp⟩,by rw [zej (zj0 r) hx];simp [zj0]⟩
  .repeat' first|refine gC ?_ ?_<;>intro hc<;>try contradiction|refine gG ?_|show AK _;intro J Z|refine gJ ?_|omega|exact aT
   have e:k=(zaK r.per).length:=by omega
   subst e;rw [xai];exact .refl _
def yaS (r:Req) (n:Int):Pure prog 139 [r.pv,.i .i64 n] (r.at n).pv:=by
 refine pz func139 f139.eq_1 λhw X hX=>?_
 have qe:=@qR;exact gD0
def yah {r:Req} (h:zbY r=0) {n:Int} (h0:0<=n) (h1:n<=1439):zbY (r.at n)=0:=by
 have hm:=(zeR h).2;have e:rng n 0 1439=rng r.minute 0 1439:=by rw [zdR.2 ⟨h0,h1⟩,zdR.2 hm]
 unfold zbY at h ⊢;simp only [Req.at,e];exact h
theorem yaN:∀ (a b:List Int),zn (a++b)=if zn a=0 then zn b else zn a
 | [],b=>by simp [zn]
 | x::r,b=>by
  by_cases h:x=0
  .simp only [xaH,zn,if_pos h,yaN r b]
  .simp only [xaH,zn,if_neg h]
def yX {α:Type} {c:α->α->Int} (hs:SW (zaJ c)) (L:List α):srt (zaJ c) (zz c L):=by rw [zz,zd8 hs];exact zaU hs L
def yw (m e l s:Int) (j:Nat):List Int:=(if e<=m - j*s then [m - j*s] else [])++(if 0 < (j:Int)*s/\m+j*s<=l then [m+j*s] else [])
def yF (m e l s:Int) (K:Nat):List Int:=(List.range K).flatMap (yw m e l s)
def ltC (m a b:Int):Prop:=zdV (a - m) < zdV (b - m)\/(zdV (a - m)=zdV (b - m)/\a < b)
def yag (m a b:Int):cmpC m a b < 0↔ltC m a b:=by
 unfold cmpC ltC;simp only [zn]
 by_cases h:zdV (a - m)=zdV (b - m)
 .rw [if_pos ((zgZ _ _).2 h)]
  by_cases h2:zi9 a b=0
  .rw [if_pos h2];have:=(zgZ _ _).1 h2;omega
  .rw [if_neg h2,zgY];omega
 .rw [if_neg λk=>h ((zgZ _ _).1 k),zgY];omega
def y8 (m a:Int):¬ltC m a a:=by unfold ltC;omega
def yaL (m a b c:Int) (h:ltC m a b) (k:ltC m b c):ltC m a c:=by unfold ltC at *;omega
def yk {m e l s:Int} (hs:1<=s) {j:Nat} {x:Int}:x ∈ yw m e l s j↔(x=m - j*s/\e<=x)\/(x=m+j*s/\0 < (j:Int)*s/\x<=l):=by
 unfold yw;rw [xaR]
 constructor
 .rintro (h|h)
  .split at h
   .simp at h;subst h;exact .inl ⟨rfl,by assumption⟩
   .simp at h
  .split at h
   .rename_i h2;simp at h;subst h;exact .inr ⟨rfl,h2.1,h2.2⟩
   .simp at h
 .rintro (⟨rfl,h⟩|⟨rfl,h1,h2⟩)
  .left;rw [if_pos h];simp
  .right;rw [if_pos ⟨h1,h2⟩];simp
def ym {m:Int} {d:Int} (h:0<=d):zdV (m - d - m)=d/\zdV (m+d - m)=d:=by unfold zdV;omega
def yN {m e l s:Int} (hs:1<=s) {j:Nat} {x:Int} (h:x ∈ yw m e l s j):zdV (x - m)=j*s:=by
 have hj:0<=(j:Int)*s:=Int.mul_nonneg (by omega) (by omega)
 rcases (yk hs).1 h with ⟨rfl,_⟩|⟨rfl,_⟩
 .exact (ym hj).1
 .exact (ym hj).2
theorem yM {m e l s:Int} (hs:1<=s):∀ K,(yF m e l s K).Pairwise (ltC m)
 | 0=>by simp [yF]
 | K+1=>by
  rw [yF,zbE,<-yF];refine xcn.2 ⟨yM hs K,?_,λa ha b hb=>?_⟩
  .unfold yw
   split<;>split<;>simp
   rename_i h1 h2
   right
   have hj:0<=(K:Int)*s:=by omega
   exact ⟨by rw [(ym hj).1,(ym hj).2],by omega⟩
  .obtain ⟨j,hj,ha⟩:=xaz.1 ha;have hj:j < K:=by simpa using hj
   left
   rw [yN hs ha,yN hs hb];exact Int.mul_lt_mul_of_pos_right (by omega) (by omega)
def yT {m e l s:Int} (hs:1<=s):(zkM m e l s).Nodup:=by
 unfold zkM;refine xb8.2 (List.nodup_range.imp fun {a b} h k=>h ?_)
 have:(a:Int)*s=b*s:=by omega
 have:=Int.eq_of_mul_eq_mul_right (show s≠0 by omega) this
 omega
def yaA {m e l s:Int} (hs:1<=s) (h1:e<=m) (h2:m<=l) (he:0<=e) (hl:l<=1439) {K:Nat} (hK:1440<=(K:Int)*s) {x:Int}:x ∈ yF m e l s K↔e<=x/\x<=l/\∃ k:Int,x=m+k*s:=by
 unfold yF;rw [xaz]
 constructor
 .rintro ⟨j,hj,hx⟩;have hj0:0<=(j:Int)*s:=Int.mul_nonneg (by omega) (by omega)
  rcases (yk hs).1 hx with ⟨rfl,h⟩|⟨rfl,h,h3⟩
  .exact ⟨h,by omega,-(j:Int),by rw [Int.neg_mul];omega⟩
  .exact ⟨by omega,h3,j,rfl⟩
 .rintro ⟨g1,g2,k,rfl⟩;have lt_of:∀ j:Nat,(j:Int)*s<=1439->j < K:=λj hj=>by
   refine Decidable.byContradiction λhk=>?_
   have:(K:Int)*s<=j*s:=Int.mul_le_mul_of_nonneg_right (by omega) (by omega)
   omega
  by_cases hk:0 < k
  .have e1:((k.toNat:Nat):Int)=k:=xbl (by omega)
   have hp:0 < k*s:=Int.mul_pos hk (by omega)
   exact ⟨k.toNat,xaQ.2 (lt_of _ (by rw [e1];omega)),(yk hs).2 (.inr ⟨by rw [e1],by rw [e1];exact hp,g2⟩)⟩
  .have e1:(((-k).toNat:Nat):Int)=-k:=xbl (by omega)
   have e2:(-k)*s=-(k*s):=Int.neg_mul ..;exact ⟨(-k).toNat,xaQ.2 (lt_of _ (by rw [e1,e2];omega)),(yk hs).2 (.inl ⟨by rw [e1,e2];omega,g1⟩)⟩
def ya6 (m:Int):SW (zaJ (cmpC m)) where
 asym x y h:=by
  simp only [zaJ,decide_eq_true_eq,decide_eq_false_iff_not,yag] at h ⊢;exact λk=>y8 m x (yaL m _ _ _ h k)
 nt x y z h k:=by
  simp only [zaJ,decide_eq_false_iff_not,yag] at h k ⊢;unfold ltC at *;omega
def can_eq {m e l s:Int} (hs:1<=s) (h1:e<=m) (h2:m<=l) (he:0<=e) (hl:l<=1439) {K:Nat} (hK:1440<=(K:Int)*s):zz (cmpC m) (zkM m e l s)=yF m e l s K:=by
 have hp:=zhs (cmpC m) (zkM m e l s);have hnd:(zz (cmpC m) (zkM m e l s)).Nodup:=hp.symm.nodup (yT hs);have hsr:=yX (ya6 m) (zkM m e l s);refine zpx (y8 m) (yaL m) ?_ (yM hs K) λx=>?_
 .refine (hsr.and hnd).imp fun {a b} h=>?_
  have h3:=h.1;simp only [zaJ,decide_eq_false_iff_not,yag] at h3;have h4:=h.2;unfold ltC zdV at *;omega
 .rw [hp.mem_iff,zvF hs h1 h2,yaA hs h1 h2 he hl hK]
def yaM (l r:List Int):zn (zn l::r)=zn (l++r):=by
 rw [yaN]
 by_cases h:zn l=0
 .rw [zro h,if_pos h]
 .rw [zlL h,if_neg h]
