/- Contracts. No conditions. -/
import Derived.ProofKit
import Derived.OpenShut
import Derived.Carry
import Derived.OpenVars
import Derived.HandedShaped
import Derived.KernelRfl
import Derived.Laws.RangeAny
import Derived.Test.YtbgckikhhcbmpaaGreatRows
import Derived.Test.YtbgckikhhcbmpaaGreatK15
set_option linter.all false
set_option maxHeartbeats 8000000
set_option maxRecDepth 100000
namespace Go.Proofs.YtbgckikhhcbmpaaGreat
open Go.ChangeShapes Go.WideShapes Go.ChangeAt Go.RowKit Go.Proofs.Tryz
variable {k s:ByteArray} {a b e m x:Int} {cs:List CP} {r:List Int} {ls:List Lim} {ps:List MemPlace} {l:List PV} {L:List Wis} {K c i j n:Nat} {p:PV} {P:Program} {t:TypeId} {v:Value} {w:Wis}
def yDF:=aI @decide_true @decide_false
def yDT:=aI @decide_true (aI @decide_false @Bool.not_true)
def yd (P:Program) (t:TypeId):Bool:=match P.underlying t with|some (.struct _)|some (.array _ _)=>true|_=>false
def ye (P:Program) (F:TypeId->Option (List CP)):List (TypeId × Nat)->Nat->Option (List CP)
 | [],_=>some []
 | p::r,off=>if p.2=off then (F p.1).bind λc=>if P.cellsOf p.1=c.length then (ye P F r (off+c.length)).map (c++·) else none else none
def yK (P:Program):Nat->Nat->TypeId->Option (List CP)
 | 0,_,_=>none
 | n+1,sl,t=>match P.underlying t with
  | some .bool=>some [.b]
  | some (.int k)=>some [.i k]
  | some .string=>some [.s]
  | some (.slice e)=>match sl with
   | 0=>none
   | sl+1=>(yK P n sl e).bind λc=>if P.cellsOf e=c.length/\(yd P e=true\/c.length=1)/\0 < c.length then some [.sl (yd P e) c] else none
  | some (.struct fs)=>(ye P (yK P n sl) (fs.toList.map λf=>(f.type,f.offset)) 0).bind λc=>if c.length=P.cellsOf t then some c else none
  | some (.array m e)=>(ye P (yK P n sl) ((List.range m).map λi=>(e,i*P.cellsOf e)) 0).bind λc=>if c.length=P.cellsOf t then some c else none
  | _=>none
def y7 (ag:Bool) (l:List PV):PV:=if ag then .agg l else l.headD .any
def Fit:Nat->CP->PV->Prop
 | _,.b,p=>∃ x,p=.b x
 | _,.i k,p=>∃ n,p=.i k n
 | _,.s,p=>∃ x,p=.s x
 | 0,.sl _ _,_=>False
 | n+1,.sl ag cs,p=>∃ xs,p=.sl cs.length xs/\∀ x ∈ xs,∃ l,x=y7 ag l/\FitAll (Fit n) cs l
theorem yk {α β:Type} {f:α->Option β}:∀ {l:List α} {r:List β},l.mapM f=some r->∀ x ∈ l,∃ y,f x=some y
 | [],_,_,x,hx=>by cases hx
 | a::l,r,h,x,hx=>by
  rw [xch] at h;cases ha:f a with
  | none=>rw [ha] at h;cases h
  | some y=>
   rw [ha] at h;simp only [xcr,xbN] at h;cases hl:l.mapM f with
   | none=>rw [hl] at h;cases h
   | some ys=>
    rcases xaI.1 hx with rfl|hx
    .exact ⟨y,ha⟩
    .exact yk hl x hx
theorem ya {α β:Type} {f:α->Option β}:∀ {l:List α} {r:List β},l.mapM f=some r->r.length=l.length
 | [],r,h=>by simp at h;subst h;rfl
 | a::l,r,h=>by
  rw [xch] at h;cases ha:f a with
  | none=>rw [ha] at h;cases h
  | some y=>
   rw [ha] at h;simp only [xcr,xbN] at h;cases hl:l.mapM f with
   | none=>rw [hl] at h;cases h
   | some ys=>
    rw [hl] at h;simp only [xbN,Option.pure_def,xaK] at h;subst h;simp [ya hl]
theorem yW {α β:Type} {f:α->Option β}:∀ {l:List α} {r:List β},l.mapM f=some r->∀ {i:Nat} {x:α},l[i]?=some x->f x=r[i]?
 | [],r,_,i,x,hx=>by simp at hx
 | a::l,r,h,i,x,hx=>by
  rw [xch] at h;cases ha:f a with
  | none=>rw [ha] at h;cases h
  | some y=>
   rw [ha] at h;simp only [xcr,xbN] at h;cases hl:l.mapM f with
   | none=>rw [hl] at h;cases h
   | some ys=>
    rw [hl] at h;simp only [xbN,Option.pure_def,xaK] at h;subst h;cases i with
    | zero=>simp at hx;subst hx;simpa using ha
    | succ i=>simpa using yW hl (i:=i) (by simpa using hx)
def ybT {k:IntKind} {n:Int} (h:(Lit.int k n).wf=true):k.wrap n=n:=by
 cases k<;>simp [Lit.wf,IntKind.wrap,IntKind.min,IntKind.max,IntKind.signed,IntKind.bits] at *<;>omega
section
variable {H:Type} {enc:TypeId × Value->H} {P:Program} {w:World} {base:Nat} {sp:Nat->Bool} {held:Bool}
def ya3 {a:Addr} (h:w.cell? a=some v):a.block < w.heap.size/\a.spot=none:=by
 unfold World.cell? at h
 split at h
 .rename_i hh
  split at h
  .cases h
  .rename_i hs;exact ⟨(xaR.1 hh).1,by simpa using hs⟩
 .cases h
theorem ym {fuel n:Nat} {sl:Nat} {B:Nat->Prop} {cs:List Value}
  (ih:∀ {t:TypeId} {ds:List Value} {x:DataW H × List MemPlace} {c:List CP},(∀ v ∈ ds,v ∈ cs)->DataW.trod enc P w base sp held fuel t ds=some x->yK P n sl t=some c->∃ ps,Reps w B ds ps/\FitAll (Fit n) c ps) :
  ∀ (fl:List (TypeId × Nat)) (off:Nat) (c:List CP),(∀ p ∈ fl,∃ x,DataW.trod enc P w base sp held fuel p.1 ((cs.drop p.2).take (P.cellsOf p.1))=some x)->ye P (yK P n sl) fl off=some c->off+c.length<=cs.length ->
   ∃ ps,Reps w B ((cs.drop off).take c.length) ps/\FitAll (Fit n) c ps
 | [],off,c,_,h,_=>by
  simp only [ye,xaK] at h;subst h;exact ⟨[],by simpa using Reps.nil,trivial⟩
 | p::r,off,c,hx,h,hl=>by
  simp only [ye] at h
  split at h
  .rename_i ho;obtain ⟨c1,h1,h⟩:=xao.1 h
   split at h
   .rename_i hc;obtain ⟨c2,h2,rfl⟩:=xab.1 h;obtain ⟨x,hx1⟩:=hx p (by simp)
    rw [ho,hc] at hx1;obtain ⟨p1,r1,f1⟩:=ih (λv hv=>List.mem_of_mem_drop (xbu hv)) hx1 h1
    obtain ⟨p2,r2,f2⟩:=ym ih r (off+c1.length) c2 (λq hq=>hx q (by simp [hq])) h2 (by simp at hl;omega)
    refine ⟨p1++p2,?_,f1.app f2⟩;have e:(cs.drop off).take (c1++c2).length=(cs.drop off).take c1.length++(cs.drop (off+c1.length)).take c2.length:=by
     rw [xad,List.take_add,xbP]
    rw [e];exact r1.append r2
   .cases h
  .cases h
theorem yq {B:Nat->Prop} (hB:∀ b,b < w.heap.size->B b):∀ (n fuel:Nat) (sl:Nat) {t:TypeId} {cs:List Value} {x:DataW H × List MemPlace} {c:List CP},
  DataW.trod enc P w base sp held fuel t cs=some x->yK P n sl t=some c->∃ ps,Reps w B cs ps/\FitAll (Fit n) c ps
 | 0,_,_,_,_,_,_,_,h=>by simp [yK] at h
 | _+1,0,_,_,_,_,_,h,_=>by simp [DataW.trod] at h
 | n+1,fuel+1,sl,t,cs,x,c,h,hc=>by
  have mono:∀ {c:List CP} {ps:List PV},FitAll (Fit n) c ps->FitAll (Fit (n+1)) c ps:=by
   have one:∀ (m:Nat) (c:CP) (p:PV),Fit m c p->Fit (m+1) c p:=by
    intro m
    induction m with
    | zero=>intro c p h;cases c<;>first|exact h|exact h.elim
    | succ m ihm=>
     intro c p h
     cases c with
     | b=>exact h
     | i k=>exact h
     | s=>exact h
     | sl ag cs=>
      obtain ⟨xs,h1,h2⟩:=h
      refine ⟨xs,h1,λx hx=>?_⟩
      obtain ⟨l,h3,h4⟩:=h2 x hx
      refine ⟨l,h3,?_⟩
      have:∀ (a:List CP) (b:List PV),FitAll (Fit m) a b->FitAll (Fit (m+1)) a b:=by
       intro a
       induction a with
       | nil=>intro b hb;cases b<;>exact hb
       | cons y r ihr=>
        intro b hb
        cases b with
        | nil=>exact hb
        | cons z q=>exact ⟨ihm _ _ hb.1,ihr _ hb.2⟩
      exact this _ _ h4
   intro c
   induction c with
   | nil=>intro ps h;cases ps<;>exact h
   | cons y r ihr=>
    intro ps h
    cases ps with
    | nil=>exact h
    | cons z q=>exact ⟨one _ _ _ h.1,ihr h.2⟩
  unfold DataW.trod at h
  unfold yK at hc
  cases hu:P.underlying t with
  | none=>rw [hu] at hc;cases hc
  | some d=>
   rw [hu] at h hc
   match d,h,hc with
   | .bool,h,hc=>
    simp only [xaK] at hc;subst hc
    match cs,h with
    | [.bool b],h=>exact ⟨[.b b],Reps.cons (.b b) Reps.nil,⟨b,rfl⟩,trivial⟩
   | .int k,h,hc=>
    simp only [xaK] at hc;subst hc
    match cs,h with
    | [.int k' m],h=>
     simp only at h
     split at h
     .rename_i hk
      obtain ⟨rfl,hw⟩:=hk
      exact ⟨[.i k' m],Reps.cons (.i (ybT hw)) Reps.nil,⟨m,rfl⟩,trivial⟩
     .cases h
   | .string,h,hc=>
    simp only [xaK] at hc;subst hc
    match cs,h with
    | [.string z],h=>
     simp only at h
     split at h
     .rename_i hk
      exact ⟨[.s z],Reps.cons (.s hk) Reps.nil,⟨z,rfl⟩,trivial⟩
     .cases h
   | .slice e,h,hc=>
    simp only at hc
    cases sl with
    | zero=>cases hc
    | succ sl=>
     obtain ⟨ce,h1,hc⟩:=xao.1 hc
     split at hc
     .rename_i hce
      simp only [xaK] at hc;subst hc
      match cs,h with
      | [.slice none 0 0],h=>exact ⟨[.sl ce.length []],Reps.cons .sl0 Reps.nil,⟨[],rfl,λx hx=>by cases hx⟩,trivial⟩
      | [.slice (some a) len cap],h=>
       simp only at h
       split at h
       .rename_i hb
        obtain ⟨els,h2,_⟩:=xao.1 h
        by_cases hl0:len=0
        .subst hl0
         exact ⟨[.sl ce.length []],Reps.cons (.sle hb.2.2) Reps.nil,⟨[],rfl,λx hx=>by cases hx⟩,trivial⟩
        have hBa:B a.block/\a.spot=none:=by
         obtain ⟨y,hy⟩:=yk h2 0 (xaG.2 (by omega))
         obtain ⟨us,h3,h4⟩:=xao.1 hy
         unfold World.cells? at h3
         split at h3
         .have h5:=yW h3 (i:=0) (x:=0) (List.getElem?_range (by rw [hce.1];exact hce.2.2))
          have h6:us.length=P.cellsOf e:=by simpa using ya h3
          have h7:0 < us.length:=by rw [h6,hce.1];exact hce.2.2
          rw [xac h7] at h5
          have e0:∀ z:Addr,z.add 0=z:=λz=>by unfold Addr.add;simp
          rw [Nat.zero_mul,e0,e0] at h5
          obtain ⟨k1,k2⟩:=ya3 h5
          exact ⟨hB _ k1,k2⟩
         .cases h3
        have key:∀ i,i < len->∃ (us:List Value) (ps:List PV),(∀ j v,us[j]?=some v->w.cell? (a.add (i*ce.length+j))=some v)/\Reps w B us ps/\FitAll (Fit n) ce ps:=λi hi=>by
         obtain ⟨y,hy⟩:=yk h2 i (xaG.2 hi)
         obtain ⟨us,h3,h4⟩:=xao.1 hy
         obtain ⟨ps,h5,h6⟩:=yq (B:=B) hB n fuel sl h4 h1
         refine ⟨us,ps,λj v hv=>?_,h5,h6⟩
         unfold World.cells? at h3
         split at h3
         .have hlen:j < P.cellsOf e:=by
           have e1:us.length=P.cellsOf e:=by
            have:=ya h3
            simpa using this
           rw [<-e1];exact (xaa.1 hv).1
          have:=yW h3 (List.getElem?_range hlen)
          rw [hv] at this
          rw [hce.1] at this
          rw [<-Addr.add_add];exact this
         .cases h3
        classical
        let U:Nat->List Value:=λi=>if hi:i < len then (key i hi).choose else []
        let PS:Nat->List PV:=λi=>if hi:i < len then (key i hi).choose_spec.choose else []
        have hU:∀ i,i < len->(∀ j v,(U i)[j]?=some v->w.cell? (a.add (i*ce.length+j))=some v)/\Reps w B (U i) (PS i)/\FitAll (Fit n) ce (PS i):=λi hi=>by
         have:=(key i hi).choose_spec.choose_spec
         simp only [U,PS,dif_pos hi];exact this
        have hcells:∀ i,i < len->(y7 (yd P e) (PS i)).cells=PS i:=λi hi=>by
         unfold y7
         split
         .rfl
         .rename_i hag
          have hl:=(hU i hi).2.2
          have h1l:ce.length=1:=hce.2.1.resolve_left hag
          obtain ⟨q,rfl⟩:∃ q,ce=[q]:=List.length_eq_one_iff.1 h1l
          match hPS:PS i,hl with
          | [z],hl=>
           have hz:=hl.1
           simp only [List.headD_cons]
           cases q with
           | b=>cases n<;>(obtain ⟨_,rfl⟩:=hz;rfl)
           | i k=>cases n<;>(obtain ⟨_,rfl⟩:=hz;rfl)
           | s=>cases n<;>(obtain ⟨_,rfl⟩:=hz;rfl)
           | sl ag cs=>
            cases n with
            | zero=>exact hz.elim
            | succ n=>obtain ⟨_,rfl,_⟩:=hz;rfl
        refine ⟨[.sl ce.length ((List.range len).map λi=>y7 (yd P e) (PS i))],Reps.cons (.sl (λi j=>(U i)[j]?.getD undef) hBa.1 hBa.2 (by simp) hb.2.1 hb.2.2 ?_ ?_ ?_) Reps.nil,⟨_,rfl,λx hx=>?_⟩,trivial⟩
        .intro i x hx
         simp only [xal,xab] at hx
         obtain ⟨i',hi',rfl⟩:=hx
         obtain ⟨hi,rfl⟩:=xaa.1 hi'
         simp only [xaU,xct] at hi ⊢
         rw [hcells i hi,(hU i hi).2.2.len]
        .intro i x j p hx hp
         simp only [xal,xab] at hx
         obtain ⟨i',hi',rfl⟩:=hx
         obtain ⟨hi,rfl⟩:=xaa.1 hi'
         simp only [xaU,xct] at hi hp ⊢
         rw [hcells i hi] at hp
         obtain ⟨v,hv,_⟩:=(hU i hi).2.1.get hp
         rw [hv];exact (hU i hi).1 j v hv
        .intro i x j p hx hp
         simp only [xal,xab] at hx
         obtain ⟨i',hi',rfl⟩:=hx
         obtain ⟨hi,rfl⟩:=xaa.1 hi'
         simp only [xaU,xct] at hi hp ⊢
         rw [hcells i hi] at hp
         obtain ⟨v,hv,hr⟩:=(hU i hi).2.1.get hp
         rw [hv];exact hr
        .obtain ⟨i,hi,rfl⟩:=xaN.1 hx
         exact ⟨_,rfl,(hU i (xaG.1 hi)).2.2⟩
       .cases h
     .cases hc
   | .struct fs,h,hc=>
    simp only at h hc
    obtain ⟨c',h1,hc⟩:=xao.1 hc
    split at hc
    .rename_i hl
     simp only [xaK] at hc;subst hc
     split at h
     .rename_i hcs
      obtain ⟨xs,h2,_⟩:=xab.1 h
      obtain ⟨ps,h3,h4⟩:=ym (B:=B) (cs:=cs) (n:=n) (sl:=sl) (λhsub hx hc=>yq hB n fuel sl hx hc) (fs.toList.map λf=>(f.type,f.offset)) 0 c' (λp hp=>by
       obtain ⟨f,hf,rfl⟩:=xaN.1 hp
       exact yk h2 f hf) h1 (by omega)
      rw [xbw,hl,<-hcs,xah] at h3
      exact ⟨ps,h3,mono h4⟩
     .cases h
    .cases hc
   | .array m e,h,hc=>
    simp only at h hc
    obtain ⟨c',h1,hc⟩:=xao.1 hc
    split at hc
    .rename_i hl
     simp only [xaK] at hc;subst hc
     split at h
     .rename_i hcs
      obtain ⟨xs,h2,_⟩:=xab.1 h
      obtain ⟨ps,h3,h4⟩:=ym (B:=B) (cs:=cs) (n:=n) (sl:=sl) (λhsub hx hc=>yq hB n fuel sl hx hc) ((List.range m).map λi=>(e,i*P.cellsOf e)) 0 c' (λp hp=>by
       obtain ⟨i,hi,rfl⟩:=xaN.1 hp
       exact yk h2 i hi) h1 (by omega)
      rw [xbw,hl,<-hcs,xah] at h3
      exact ⟨ps,h3,mono h4⟩
     .cases h
    .cases hc
end
open Go.ChangeShapes Go.WideShapes Go.ChangeAt Go.RowKit Go.Proofs.Tryz
def ybJ (P:Program) (n:Nat) (t:TypeId):Option (Bool × List CP):=(yK P n 2 t).bind λc=>if yd P t=true\/c.length=1 then some (yd P t,c) else none
def yJ (P:Program) (n:Nat) (t:TypeId) (p:PV):Prop:=
 (∃ ag c l,ybJ P n t=some (ag,c)/\p=y7 ag l/\FitAll (Fit n) c l)/\(∀ e sz xs,P.underlying t=some (.slice e)->p=.sl sz xs->xs.length*P.bytesOf e<=reachBytes)/\(∀ fs f e l sz xs,P.underlying t=some (.struct fs)->f ∈ fs.toList->P.underlying f.type=some (.slice e)->p=.agg l->l[f.offset]?=some (.sl sz xs)->xs.length*P.bytesOf e<=reachBytes)
def yag (P:Program) (n:Nat):List TypeId->List PV->Prop
 | [],[]=>True
 | t::ts,p::ps=>yJ P n t p/\yag P n ts ps
 | _,_=>False
section
variable {H:Type} {enc:TypeId × Value->H} {P:Program} {W:World}
theorem ybF:∀ {ts:List TypeId} {ds:List (DataW H)} {j:Nat} {t:TypeId} {d:DataW H},ts[j]?=some t->ds[j]?=some d->n ∈ d.weights P t->n ∈ DataW.weightsEach P ts ds
 | [],_,j,_,_,h,_,_=>by simp at h
 | _::_,[],j,_,_,_,h,_=>by simp at h
 | t::ts,d::ds,0,_,_,h,k,hn=>by
  simp at h k;subst h;subst k;simp only [DataW.weightsEach,xaS];exact .inl hn
 | t::ts,d::ds,j+1,_,_,h,k,hn=>by
  simp only [DataW.weightsEach,xaS];exact .inr (ybF (j:=j) (by simpa using h) (by simpa using k) hn)
def fld_b {fuel:Nat} {cs:List Value} {d:DataW H} (h:DataW.trod enc P W 0 (λ_=>true) true fuel t cs=some (d,ps)) (hz:(d.weights P t).all (·<=reachBytes)=true) {fs} (hu:P.underlying t=some (.struct fs)) {f} (hf:f ∈ fs.toList) {e:TypeId} (he:P.underlying f.type=some (.slice e)) {a:Option Addr} {len cap:Nat} (hv:cs[f.offset]?=some (.slice a len cap)):len*P.bytesOf e<=reachBytes:=by
 cases fuel with
 | zero=>simp [DataW.trod] at h
 | succ fuel=>
  unfold DataW.trod at h;rw [hu] at h;simp only at h
  split at h
  .obtain ⟨xs,e1,h⟩:=xab.1 h;injection h with hd _;subst hd;obtain ⟨j,hj⟩:=xa9 hf;have hx:=yW e1 hj;have hjl:j < xs.length:=by rw [ya e1];exact (xaa.1 hj).1
   obtain ⟨y,hy⟩:∃ y,xs[j]?=some y:=⟨_,xac hjl⟩;rw [hy] at hx;have hm:∀ n,n ∈ y.1.weights P f.type->n<=reachBytes:=λn hn=>by
    have:=xaO.1 hz n (by
     simp only [DataW.weights,hu];exact ybF (j:=j) (t:=f.type) (d:=y.1) (by rw [xal,hj];rfl) (by rw [xal,hy];rfl) hn)
    simpa using this
   have hc:∀ v,((cs.drop f.offset).take (P.cellsOf f.type))=[v]->v=.slice a len cap:=λv hv1=>by
    have h0:((cs.drop f.offset).take (P.cellsOf f.type))[0]?=some v:=by rw [hv1];rfl
    rw [xaQ] at h0
    split at h0
    .rw [xaY,xbt,hv] at h0;injection h0 with h0;exact h0.symm
    .cases h0
   generalize (cs.drop f.offset).take (P.cellsOf f.type)=c' at hx hc;cases fuel with
   | zero=>simp [DataW.trod] at hx
   | succ fuel=>
    unfold DataW.trod at hx;rw [he] at hx
    match c',hx,hc with
    | [.slice none 0 0],hx,hc=>
     have:=hc _ rfl;injection this with _ h2 _;rw [<-h2];simp
    | [.slice (some b) m k],hx,hc=>
     have:=hc _ rfl;injection this with _ h2 _;simp only at hx
     split at hx
     .obtain ⟨els,g1,hx⟩:=xao.1 hx;obtain ⟨rest,g2,hx⟩:=xab.1 hx;have hle:els.length=m:=by simpa using ya g1
      have:=hm ((els.length+rest.length)*P.bytesOf e) (by rw [<-hx];simp [DataW.weights,he])
      rw [<-h2,<-hle];exact xa0 (xba _ (Nat.le_add_right _ _)) this
     .cases hx
  .cases h
def yb3 {base:Nat} {d:DataW H} (hval:Value.okWide P W .any base t v) (h:DataW.Trod enc P W 0 (λ_=>true) true t v d ps) {q:Bool × List CP} (hq:ybJ P n t=some q)
  (hz:(d.weights P t).all (·<=reachBytes)=true):∃ p,Rep W (λb=>b < W.heap.size) v p/\yJ P n t p:=by
 obtain ⟨fuel,h⟩:=h
 have hq0:=hq
 unfold ybJ at hq
 obtain ⟨c,hc,hq⟩:=xao.1 hq
 split at hq
 .rename_i hl
  simp only [xaK] at hq
  subst hq
  unfold yd at hl hq0
  have key:∀ {cs:List Value},DataW.trod enc P W 0 (λ_=>true) true fuel t cs=some (d,ps)->(∀ v ∈ cs,∃ u,Cell.okWide P W .any base u v)->∃ l,Reps W (λb=>b < W.heap.size) cs l/\FitAll (Fit n) c l:=λht hc1=>
   yq (λ_ h=>h) n fuel 2 ht hc
  have other:yd P t=false->(∃ u,Cell.okWide P W .any base u v)->v.cells.toList=[v]->∃ p,Rep W (λb=>b < W.heap.size) v p/\yJ P n t p:=λhag hok hcv=>by
   rw [hcv] at h
   obtain ⟨l,h1,h2⟩:=key h (λv' hv=>by simp at hv;subst hv;exact hok)
   have hlen:=h1.1
   match l,hlen with
   | [p],_=>
    have hr:=h1.2 0 v p rfl rfl
    refine ⟨p,hr,⟨false,c,[p],?_,rfl,h2⟩,λe sz xs hu he=>?_,λfs f e l sz xs hu=>?_⟩
    .rw [hq0]
     have:yd P t=false:=hag
     unfold yd at this
     rw [this]
    .subst he
     cases hr with
     | sl0=>simp
     | sle=>simp
     | sl u h3 h4 h5 h6 h7 h8 h9 h10=>
      rename_i a len cap hh
      cases fuel with
      | zero=>simp [DataW.trod] at h
      | succ fuel=>
       unfold DataW.trod at h
       rw [hu] at h
       simp only at h
       split at h
       .obtain ⟨els,e1,h⟩:=xao.1 h
        obtain ⟨rest,e2,h⟩:=xab.1 h
        injection h with hd _
        subst hd
        have:=xaO.1 hz ((els.length+rest.length)*P.bytesOf e) (by simp [DataW.weights,hu])
        simp only [decide_eq_true_eq] at this
        have hle:els.length=len:=by simpa using ya e1
        rw [h5,<-hle]
        exact xa0 (xba _ (Nat.le_add_right _ _)) this
       .cases h
    .exfalso
     unfold yd at hag
     rw [hu] at hag
     cases hag
  unfold Value.okWide at hval
  cases hu:P.underlying t with
  | none=>unfold yK at hc;cases n<;>simp [hu] at hc
  | some desc=>
   have ag:(∃ fs,desc=.struct fs)\/(∃ k e,desc=.array k e)\/(yd P t=false/\Cell.okWide P W .any base t v):=by
    unfold yd
    rw [hu] at hval ⊢
    cases desc<;>first|exact .inl ⟨_,rfl⟩|exact .inr (.inl ⟨_,_,rfl⟩)|exact .inr (.inr ⟨rfl,hval⟩)
   have agg:yd P t=true->(∃ cs,v=.agg cs/\cs.size=P.cellsOf t/\Row.okWide P W .any base t cs)->∃ p,Rep W (λb=>b < W.heap.size) v p/\yJ P n t p:=λhag hcs=>by
    obtain ⟨cs,rfl,_,hrow⟩:=hcs
    obtain ⟨l,h1,h2⟩:=key (cs:=cs.toList) h (λv' hv=>by
     obtain ⟨ts,_,_,hcell⟩:=hrow
     obtain ⟨i,hi⟩:=xa9 hv
     obtain ⟨u,_,hk⟩:=hcell i v' (by simpa using hi)
     exact ⟨u,hk⟩)
    refine ⟨.agg l,.agg (by simpa using h1.1) (λj v' p hv hp=>h1.2 j v' p (by simpa using hv) hp),⟨true,c,l,?_,rfl,h2⟩,λe sz xs hu' he=>(by cases he),λfs f e l' sz xs hu' hf he hl' hx=>?_⟩
    rotate_left
    .injection hl' with hl'
     subst hl'
     obtain ⟨v,hv⟩:∃ v,cs.toList[f.offset]?=some v:=⟨_,xac (by rw [h1.1];exact (xaa.1 hx).1)⟩
     have hr:=h1.2 _ _ _ hv hx
     cases hr with
     | sl0=>simp
     | sle=>simp
     | sl u h3 h4 h5 h6 h7 h8 h9 h10=>rw [h5];exact fld_b h hz hu' hf he hv
    rw [hq0]
    have:yd P t=true:=hag
    unfold yd at this
    rw [this]
   rcases ag with ⟨fs,rfl⟩|⟨k,e,rfl⟩|⟨hag,hok⟩
   .rw [hu] at hval
    exact agg (by unfold yd;rw [hu]) hval
   .rw [hu] at hval
    exact agg (by unfold yd;rw [hu]) hval
   .refine other hag ⟨t,hok⟩ ?_
    have:∀ cs,v≠.agg cs:=λcs e=>by
     subst e
     unfold Cell.okWide at hok
     have h2:Cell.ok P W .any base t (.agg cs):=by
      split at hok
      all_goals first|exact hok|(rename_i hv;cases hv)
     unfold Cell.ok at h2
     split at h2
     all_goals first|exact h2.elim|skip
     all_goals (rename_i hv;first|cases hv|skip)
    cases v<;>first|rfl|exact absurd rfl (this _)
 .cases hq
theorem yao {base n:Nat}:∀ {ts:List TypeId} {vs:List Value} {ds:List (DataW H)} {ps:List MemPlace},DataW.TrodAll enc P W 0 (λ_=>true) true ts vs ds ps->(∀ (j:Nat) t v,ts[j]?=some t->vs[j]?=some v->Value.okWide P W .any base t v) ->
  (∀ t ∈ ts,∃ q,ybJ P n t=some q)->(DataW.weightsEach P ts ds).all (·<=reachBytes)=true->∃ l,Reps W (λb=>b < W.heap.size) vs l/\yag P n ts l
 | [],vs,ds,ps,h,_,_,_=>by
  obtain ⟨rfl,rfl,rfl⟩:=trodAll_nil h;exact ⟨[],Reps.nil,trivial⟩
 | t::ts,vs,ds,ps,h,hval,hq,hz=>by
  obtain ⟨v,vs1,d,ds1,a,b,rfl,rfl,rfl,h1,h2⟩:=trodAll_cons h;obtain ⟨q,hq1⟩:=hq t (by simp)
  simp only [DataW.weightsEach,List.all_append,xau] at hz;obtain ⟨p,r1,f1⟩:=yb3 (n:=n) (hval 0 t v rfl rfl) h1 hq1 hz.1;obtain ⟨l,r2,f2⟩:=yao h2 (λj t v ht hv=>hval (j+1) t v (by simpa using ht) (by simpa using hv)) (λt ht=>hq t (by simp [ht])) hz.2
  exact ⟨p::l,Reps.cons r1 r2,f1,f2⟩
theorem yf (hl:laidOutB P=true) {W':World} {sp:Nat->Bool}:∀ {ts:List TypeId} {vs:List Value} {ds:List (DataW H)} {ps:List MemPlace},ts.all (λt=>P.readableRec t && decide (t < P.types.size))=true->DataW.TrodAll enc P W 0 (λ_=>true) true ts vs ds ps ->
  (∀ x ∈ ps,W.sameAt W' x)->(∀ x ∈ ps,sp x.block=true)->DataW.TrodAll enc P W' 0 sp true ts vs ds ps
 | [],vs,ds,ps,_,h,_,_=>by
  obtain ⟨rfl,rfl,rfl⟩:=trodAll_nil h;exact h
 | t::ts,vs,ds,ps,hr,h,hs,hp=>by
  obtain ⟨v,vs1,d,ds1,a,b,rfl,rfl,rfl,h1,h2⟩:=trodAll_cons h;simp only [List.all_cons,xau,decide_eq_true_eq] at hr;exact ⟨a,b,WideElems.Trod_stays hl hr.1.1 hr.1.2 h1 (λx hx=>hs x (by simp [hx])) (λx hx=>hp x (by simp [hx])),yf hl hr.2 h2 (λx hx=>hs x (by simp [hx])) (λx hx=>hp x (by simp [hx])),rfl⟩
def yaz {W':World} (hb:Below W.heap.size W W') (may:MemPlace->Prop):W.keptBut W' may:=by
 refine ⟨hb.os,hb.output,λi hi=>?_⟩
 rw [hb.block i hi];cases hh:W.heap[i]? with
 | none=>rfl
 | some o=>cases o<;>first|exact ⟨rfl,rfl,rfl,λ_ _=>rfl⟩|exact .inr ⟨rfl,rfl⟩|rfl
def yax {f:Func} {s:ChangeSpec} {apart fresh handsOn again:Bool} {W':World} {args:Array Value} {ds gs:List (DataW H)} {before:List MemPlace} {tb:TypeId} (hl:laidOutB P=true)
  (hrd:f.params.toList.all (λt=>P.readableRec t && decide (t < P.types.size))=true) (hW:DataW.Whole enc P f.params.toList s.vars apart W args.toList ds gs before) (hv:s.vars=[])
  (hs:s.fn H ds={ results:=[.lit (.bool true)],args:=ds }) (hr:f.resultTypes=#[tb]) (htb:P.underlying tb=some .bool) (hb:Below W.heap.size W W'):s.post enc P f apart fresh handsOn again W args (.bool true) W':=by
 have hlt:∀ p ∈ before,p.block < W.heap.size:=hW.lt;have hW0:=hW;obtain ⟨p,q,hA,hV,rfl,hz,hn⟩:=hW;rw [hv] at hV;obtain ⟨rfl,rfl⟩:=trodVars_none hV;simp only [xar] at hz hn hlt hW0;have hres:∀ (b:Nat) (sp:Nat->Bool) (hd:Bool),DataW.TrodAll enc P W' b sp hd f.resultTypes.toList ((Value.bool true).resultList f.resultTypes.size) [.lit (.bool true)] []:=λb sp hd=>by
  rw [hr];exact trodAll_cons_mk (shut_bool htb _) trodAll_mk0
 have hargs:∀ sp:Nat->Bool,(∀ x ∈ p,sp x.block=true)->DataW.TrodAll enc P W' 0 sp true f.params.toList args.toList ds p:=λsp hsp=>yf hl hrd hA (λx hx=>hb.same (hlt x hx)) hsp
 have hvars:∀ sp:Nat->Bool,DataW.TrodVars enc P W' sp s.vars ([]:List (DataW H)) []:=λsp=>by rw [hv];rfl
 refine ⟨ds,[],p,[],p,[],hW0,by rw [xar,hs];exact hres _ _ _,by rw [xar,hs];exact hargs _ (λx hx=>by simpa using hlt x hx),by rw [xar,hs];exact hvars _,World.keptBut_mono (λx hx=>⟨hx,.inr (.inl hx)⟩) (yaz hb (· ∈ p)),λ_=>?_⟩
 refine ⟨λj t r h1 h2=>?_,[.lit (.bool true)]++ds,[],p,⟨[]++p,[],trodAll_append (hargs _ (λ_ _=>rfl)) (hres _ _ _),hvars _,by simp,?_,?_⟩,λx hx _=>hx⟩
 .rw [hr] at h1 h2;cases j with
  | zero=>
   simp [Value.resultList] at h1 h2;subst h1;subst h2;exact okWide_bool_mk htb _
  | succ j=>simp at h1
 .intro b off hp;have:=hz b off hp;unfold World.frozen? at this ⊢;have e:W'.heap[b]?=W.heap[b]?:=hb.block b (hlt _ hp);simp only at this ⊢;rw [e];exact this
 .intro ha;exact hn ha
end
def y5 {C:Checked} {f:FuncId} {fn:Func} {s:ChangeSpec} {n:Nat} {tb:TypeId} (hl:laidOutB C.prog=true) (hrd:fn.params.toList.all (λt=>C.prog.readableRec t && decide (t < C.prog.types.size))=true)
  (hv:s.vars=[]) (hs:∀ (H:Type) (ds:List (DataW H)),ds.length=fn.params.size->s.fn H ds={ results:=[.lit (.bool true)],args:=ds }) (hr:fn.resultTypes=#[tb]) (htb:C.prog.underlying tb=some .bool)
  (hq:fn.params.toList.all (λt=>(ybJ C.prog n t).isSome)=true) (hp:∀ ps,yag C.prog n fn.params.toList ps->Pure C.prog f ps (.b true))
  {H:Type} {enc:TypeId × Value->H} {apart fresh handsOn again:Bool} (W:World) (base:Nat) (args:Array Value) (ds gs:List (DataW H)) (before:List MemPlace)
  (hval:∀ (j:Nat) t v,fn.params[j]?=some t->args[j]?=some v->Value.okWide C.prog W .any base t v) (hW:DataW.Whole enc C.prog fn.params.toList s.vars apart W args.toList ds gs before)
  (hz:(DataW.weightsEach C.prog (fn.params.toList++s.plain.varTypes C.prog) (ds++gs)).all (·<=reachBytes)=true) :
  Calls C.prog f args W λe W'=>∃ v,e=.returned v/\s.post enc C.prog fn apart fresh handsOn again W args v W':=by
 have hW0:=hW;obtain ⟨p,q,hA,hV,rfl,_,_⟩:=hW;have hV':=hV;rw [hv] at hV';obtain ⟨rfl,rfl⟩:=trodVars_none hV';have hlen:∀ {ts:List TypeId} {vs:List Value} {ds:List (DataW H)} {ps:List MemPlace},DataW.TrodAll enc C.prog W 0 (λ_=>true) true ts vs ds ps->ds.length=ts.length:=by
  intro ts
  induction ts with
  | nil=>intro vs ds ps h;obtain ⟨rfl,rfl,rfl⟩:=trodAll_nil h;rfl
  | cons t ts ih=>intro vs ds ps h;obtain ⟨v,vs1,d,ds1,a,b,rfl,rfl,rfl,h1,h2⟩:=trodAll_cons h;simp [ih h2]
 have hd:=hlen hA;have hz':(DataW.weightsEach C.prog fn.params.toList ds).all (·<=reachBytes)=true:=by
  rw [xar] at hz;have hsub:∀ (ts us:List TypeId) (ds:List (DataW H)),ds.length=ts.length->DataW.weightsEach C.prog (ts++us) ds=DataW.weightsEach C.prog ts ds:=by
   intro ts us
   induction ts with
   | nil=>intro ds h;match ds,h with|[],_=>cases us<;>simp [DataW.weightsEach]
   | cons t ts ih=>intro ds h;match ds,h with|d::ds,h=>simp only [xaM,DataW.weightsEach];rw [ih ds (by simpa using h)]
  rw [hsub _ _ _ hd] at hz;exact hz
 obtain ⟨l,hrep,hfit⟩:=yao (n:=n) hA (λj t v ht hv'=>hval j t v (by simpa using ht) (by simpa using hv')) (λt ht=>Option.isSome_iff_exists.1 (xaO.1 hq t ht)) hz'
 have:=(hp l hfit).2 W (λb=>b < W.heap.size) args.toList (λb hb=>hb) hrep
 refine (show Calls C.prog f args W _ from by simpa using this).mono λe W' he=>?_
 obtain ⟨u,rfl,hb,hu⟩:=he;cases hu;exact ⟨_,rfl,yax hl hrd hW0 hv (hs H ds (by simpa using hd)) hr htb hb⟩
open Go.RowKit Go.Proofs.Tryz
instance:Mx prog:=⟨mixed⟩
section
variable {P:Program} {ts:List (List PV)} {dr:Bool} {K:St->List Ft->Prop} {acc:List Ft} {d:Option Nat} {f:Nat} {args:List AOpd} {gd:Option (Nat × Bool)} {af:List Nat} {r:List RO} {s:St} {vs:List PV} {res:PV}
end
def yaA:zn []=0:=rfl
def yC (x:ByteArray):Pure prog 115 [.s x] (.b (zcs x)):=by
 refine pz func115 f115.eq_1 λhw X hX=>?_
 simp only [wfs,PV.wf,maxLen] at hw;refine gF2 (λhc=>?_) λhc=>?_
 .rw [zlC hc];exact .refl _
 refine zh (κ:=Nat) (λi=>⟨[(0,.p (.s x)),(3,.p (.i .i64 i))],[],[],false⟩) (λi=>i<=x.size/\∀ j < i,zhz j (zpe x j)=true) (λi=>x.size - i) 0 ?_ ?_ ?_
 .exact sR
 .simp
 .intro i hi
  repeat' first|refine gC ?_ ?_<;>intro hc<;>try contradiction|refine gG ?_|show AK _;intro J Z|refine gJ ?_|omega|exact aT
  .rw [zq4 (i:=i) (by omega)];exact .refl _
   simp only [zhz,zyy,zpe];simp;omega
  .refine ⟨i+1,⟨by omega,λj hj=>?_⟩,by omega,by simp⟩
   by_cases e:j=i
   .subst e;simp only [zhz,zyy,zpe];simp;omega
   .exact hi.2 j (by omega)
  .rw [zop ‹_› hi (by omega)];exact .refl _
def yaM (n a b:Int):Pure prog 219 [.i .i64 n,.i .i64 a,.i .i64 b] (.i .i64 (rng n a b)):=by
 refine pz func219 f219.eq_1 λhw X hX=>?_
 refine gF2 (λhc=>?_) λhc=>?_
 .rw [rng,if_pos hc];exact .refl _
 .rw [zdR.2 hc];exact .refl _
def yaN (n:Int):Pure prog 218 [.i .i64 n] (.i .i64 (rng n 0 99999)):=by
 refine pz func218 f218.eq_1 λhw X hX=>?_
 have jA:=λu1 u2 u3=>yaM u1 u2 u3;exact gD2
def yah (p:Per):Pure prog 172 [p.pv] (.i .i64 (zbx p)):=by
 refine pz func172 f172.eq_1 λhw X hX=>?_
 repeat' first|refine gC ?_ ?_<;>intro hc<;>try contradiction|refine zg (λ_=>yaN _) ?_|refine za (yaN _) ?_|refine za (yaM _ _ _) ?_|refine gG ?_|show AK _;intro J Z|refine gJ ?_|omega|exact aT
 .rw [show zbx p=3 by simp only [zbx,zn,rng];(repeat' split)<;>omega];exact .refl _
 .rw [show zbx p=11 by simp only [zbx,zn,rng];(repeat' split)<;>omega];exact .refl _
 .rw [show zbx p=4 by simp only [zbx,zn,rng];(repeat' split)<;>omega];exact .refl _
 .rw [show zbx p=rng p.days 1 127 by simp only [zbx,zn,rng];(repeat' split)<;>omega];exact .refl _
def ybZ (d:Int) (h0:0<=d) (h1:d<=99999):Pure prog 239 [.i .i64 d] (.i .i64 ((d+5) % 7)):=by
 refine pz func239 f239.eq_1 λhw X hX=>?_
 refine gE2 ?_;rw [xbV (by omega)]
 exact .refl _
def yaL (m w:Int) (h0:0<=m) (h1:m < 128) (h2:0<=w) (h3:w < 7):Pure prog 238 [.i .i64 m,.i .i64 w] (.b (inM m w)):=by
 refine pz func238 f238.eq_1 λhw X hX=>?_
 refine gE2 ?_;refine zh (κ:=Nat) (λi=>⟨[(0,.p (.i .i64 (m / 2 ^ i))),(1,.p (.i .i64 w)),(5,.p (.i .i64 i))],[],[],false⟩) (λi=>i<=w.toNat) (λi=>w.toNat - i) 0 ?_ ?_ ?_
 .exact sS
 .simp
 .intro i hi;have hq:0<=m / 2 ^ i:=xbh h0 (Int.le_of_lt (Int.pow_pos (by decide)))
  have hq2:m / 2 ^ i<=m:=xbr _ h0;have hq3:∀ b,(m / 2 ^ i).tdiv b=(m / 2 ^ i) / b:=λb=>xbp hq
  have hq4:∀ b,(m / 2 ^ i).tmod b=(m / 2 ^ i) % b:=λb=>xbV hq
  have qe:=aI @hq3 @hq4;refine gF2 (λhc=>?_) λhc=>?_
  .refine ⟨i+1,by omega,by omega,?_,by simp⟩
   rw [Int.pow_succ,Int.ediv_ediv_of_nonneg (Int.le_of_lt (Int.pow_pos (by decide)))]
  .have e:i=w.toNat:=by omega
   subst e;exact .refl _
def yb0 (p:Per) (d:Int) (h0:0<=d) (h1:d<=99999) (h2:0<=p.days) (h3:p.days < 128):Pure prog 198 [p.pv,.i .i64 d] (.b (zBv p d)):=by
 refine pz func198 f198.eq_1 λhw X hX=>?_
 have qe:=@qR;repeat' first|refine gC ?_ ?_<;>intro hc<;>try contradiction|refine zg (λ_=>ybZ _ h0 h1) ?_|(show zp _ _ _ _ (⟨_,.call 238,_,_,_⟩::_) _ _;refine zkX (hf:=λhc=>(by first|exact yaL p.days ((d+5) % 7) h2 h3 (by omega) (by omega)|(simp only [qH,zdR] at hc;exact yaL p.days ((d+5) % 7) h2 h3 (by omega) (by omega)))) (hn:=?_))|refine gG ?_|show AK _;intro J Z|refine gJ ?_|omega|exact aT
 all_goals exact .refl _
def yaY {p:Per} (k:Nat) (h:k < (p.to - p.fro+1).toNat):zBv p (p.fro+k)=inM p.days ((p.fro+k+5) % 7):=by
 simp only [zBv,show p.fro<=p.fro+(k:Int) by omega,show p.fro+(k:Int)<=p.to by omega,decide_true,xaZ]
def yI (p:Per) (k:Nat):List Int:=(List.range k).flatMap λ(k:Nat)=>if inM p.days ((p.fro+k+5) % 7) then [p.fro+k] else []
def ya1 (p:Per) (n:Nat):(yI p n).length<=n:=by
 unfold yI
 induction n with
 | zero=>simp
 | succ n ih=>rw [zbE,xad];split<;>simp only [xaz,xbB]<;>omega
def pure67 (p:Per) (h:zbx p=0):Pure prog 136 [p.pv] (.sl 1 ((zaK p).map (.i .i64))):=by
 have hp:=zaI h;refine pz func136 f136.eq_1 λhw X hX=>?_
 refine gE2 ?_;refine run_ownL 100 3 1 (κ:=Nat) (λk=>⟨[(1,.lp 1 0),(3,.row 100 (yI p k).length),(4,.p (.i .i64 (p.fro+k)))],[(1,.box [.p (.i .i64 p.fro),.p (.i .i64 p.to),.p (.i .i64 p.days)] false),(100,.row 3 1 ((yI p k).map (.i .i64)) false)],[],false⟩) (λk=>k<=(p.to - p.fro+1).toNat) (λk=>(p.to - p.fro+1).toNat - k) 0 ?_ ?_ ?_
 .refine ⟨gO ?_,gO ?_⟩<;>simp [yI]
 .simp
 .intro k hk;have hl:=ya1 p k;have qe:=@qR;repeat' first|refine gC ?_ ?_<;>intro hc<;>try contradiction|refine za (yb0 p (p.fro+k) (by omega) (by omega) (by omega) (by omega)) ?_|refine gG ?_|show AK _;intro J Z|refine gJ ?_|omega|exact aT
  .have e:yI p (k+1)=yI p k++[p.fro+(k:Int)]:=by
    rw [yaY k (by omega)] at hc;simp only [yI,zbE,hc,if_true]
   refine ⟨k+1,by omega,by omega,⟨by rw [e];simp,by simp;omega⟩,by rw [e];simp⟩
  .have e:yI p (k+1)=yI p k:=by
    rw [yaY k (by omega)] at hc;simp only [yI,zbE,hc];simp
   refine ⟨k+1,by omega,by omega,⟨by rw [e],by simp;omega⟩,by rw [e]⟩
  .have e:k=(p.to - p.fro+1).toNat:=by omega
   subst e;exact .refl _
def excB (m:List Mov) (i:Nat) (l:Lim) (b:Int):List Win:=if l.most < zbb l m b then [⟨i,b,zbb l m b⟩] else []
def excL (m:List Mov) (i:Nat) (l:Lim):List Win:=(zaq l).flatMap (excB m i l)
def excI (ls:List Lim) (m:List Mov) (i:Nat):List Win:=match ls[i]? with|some l=>excL m i l|none=>[]
def excK (ls:List Lim) (m:List Mov) (k:Nat):List Win:=(List.range k).flatMap (excI ls m)
def yby (ls:List Lim) (m:List Mov):List Win:=excK ls m ls.length
def ybH (s:ByteArray):Pure prog 170 [.s s] (.b (decide (s=s0) || zcs s)):=by
 refine pz func170 f170.eq_1 λhw X hX=>?_
 have jA:=λu1=>yC u1;exact gD2
def yaI (n a b:Int):Pure prog 171 [.i .i64 n,.i .i64 a,.i .i64 b] (.b (decide (n < a) || decide (b < n))):=by
 refine pz func171 f171.eq_1 λhw X hX=>?_
 exact gD2
def yb (h:e=0):zn (e::r)=zn r:=by rw [zn,if_pos h]
def yG (h:e≠0):zn (e::r)=e:=by rw [zn,if_neg h]
def ybV {n:Int} (h:n < a\/b < n):rng n a b=3:=by rw [rng,if_pos h]
def yac (h:zcs s=true):zfA s=0:=by rw [zfA,if_neg (by simp [h])]
def yV (h:zcs s=false):zfA s=8:=by rw [zfA,if_pos h]
def yap (h:s=s0\/zcs s=true):zo6 s=0:=by rw [zo6,if_neg];rintro ⟨h1,h2⟩;rcases h with h|h<;>simp_all
def yaQ (h:¬s=s0/\zcs s=false):zo6 s=8:=by rw [zo6,if_pos h]
def yH {k:Int} (h:e=k) (hk:k≠0):zn (e::r)=k:=by rw [yG (by rw [h];exact hk),h]
def yaS {c:Int} (h:0<=a/\a<=999/\0<=b/\b<=9/\0<=c/\c<=99):zyv a b c=0:=by rw [zyv];simp only [zn,rng];(repeat' split)<;>omega
def yaV (h:¬k=sA/\¬k=sD->k=sT):zon k=0:=by rw [zon,if_neg];rintro ⟨h1,h2,h3⟩;exact h3 (h ⟨h1,h2⟩)
def yaq (h:(¬k=sA/\¬k=sD)/\¬k=sT):zon k=13:=by rw [zon,if_pos ⟨h.1.1,h.1.2,h.2⟩]
def y6 (h:¬k=sA->k=sD):zgM k=0:=by rw [zgM,if_neg];rintro ⟨h1,h2⟩;exact h2 (h h1)
def yO (h:¬k=sA/\¬k=sD):zgM k=13:=by rw [zgM,if_pos h]
def yaJ (l:Lim):Pure prog 89 [l.pv] (.i .i64 (zr l)):=by
 refine pz func89 f89.eq_1 λhw X hX=>?_
 repeat' first|refine gC ?_ ?_<;>intro hc<;>try contradiction|refine za (yC _) ?_|refine za (ybH _) ?_|refine zg (λ_=>yaI _ _ _) ?_|refine za (yah l.per) ?_|refine gG ?_|show AK _;intro J Z|refine gJ ?_|omega|exact aT
 all_goals (refine weakI (Eq.symm ?_);rw [zr];(repeat refine Eq.trans (yb (by first|exact yac (by assumption)|exact yaV (by assumption)|exact y6 (by assumption)|exact yap (by assumption)|exact zdR.2 (by omega)|exact yaS (by omega)|exact if_neg (by omega)|assumption)) ?_);first|rfl|exact yH (by first|exact yV (by assumption)|exact yaq (by assumption)|exact yO (by assumption)|exact yaQ (by assumption)|exact ybV (by omega)|exact if_pos (by omega)|rfl) (by first|decide|assumption)|(simp only [zn,rng,zyv];(repeat' split)<;>omega))
def pure72 (l:List Lim) (n:ByteArray):Pure prog 90 [.sl 11 (l.map Lim.pv),.s n] (.i .i64 (atL n (l.map Lim.name))):=by
 refine pz func90 f90.eq_1 λhw X hX=>?_
 simp only [wfs,PV.wf,xaf,maxLen] at hw;refine gE2 ?_;refine zh (κ:=Nat) (λi=>⟨[(0,.p (.sl 11 (l.map Lim.pv))),(1,.p (.s n)),(5,.p (.i .i64 i))],[],[],false⟩) (λi=>i<=l.length/\∀ x ∈ (l.map Lim.name).take i,x≠n) (λi=>l.length - i) 0 ?_ ?_ ?_
 .exact sR
 .simp
 .intro i hi;refine gH (λhc=>?_) λhc=>?_
  .obtain ⟨x,hx⟩:=zj (i:=i) (l:=l) (by omega)
   have qe:=@hx;refine gF2 (λhc=>?_) λhc=>?_
   .rw [zr8 hi.2 (by simp [hx,hc])];exact .refl _
   .refine ⟨i+1,⟨by omega,λy hy=>?_⟩,by omega,by simp⟩
    rw [<-xbK,zej _ hx] at hy
    rcases xaS.1 hy with h|h
    .exact hi.2 y (by rw [<-xbK];exact h)
    .simp at h;subst h;exact hc
  .refine gE2 ?_;have e:i=l.length:=by omega
   subst e;rw [zsa (λy hy=>hi.2 y (by rw [xas (by simp)];exact hy))];exact .refl _
def yaK (l:List Lim):Pure prog 20 [.sl 11 (l.map Lim.pv)] (.i .i64 (zJ l)):=by
 refine pz func20 f20.eq_1 λhw X hX=>?_
 simp only [wfs,PV.wf,xaf,maxLen] at hw;refine gF2 (λhc=>?_) λhc=>?_
 .rw [zJ,if_pos (by omega)];exact .refl _
 refine zh (κ:=Nat) (λi=>⟨[(0,.p (.sl 11 (l.map Lim.pv))),(3,.p (.i .i64 i))],[],[],false⟩) (λi=>i<=l.length/\∀ x ∈ (ziD l).take i,x=0) (λi=>l.length - i) 0 ?_ ?_ ?_
 .exact sR
 .simp
 .intro i hi;refine gH (λhc=>?_) λhc=>?_
  .obtain ⟨x,hx⟩:=zj (i:=i) (l:=l) (by omega)
   have key:∀ e:Int,zqU l i x=e->e≠0->zJ l=e:=λe he h0=>by subst he;unfold zJ;rw [if_neg (by omega)];exact zbr hi.2 (zaj hx) h0
   have qe:=aI qR (aI @hx @zsU);repeat' first|refine gC ?_ ?_<;>intro hc<;>try contradiction|refine za (yaJ x) ?_|refine za (pure72 (l.take i) x.name) ?_|refine gG ?_|show AK _;intro J Z|refine gJ ?_|omega|exact aT
   .rw [key (zr x) (by rw [zqU,yG hc]) hc];exact .refl _
   .rw [key 9 (by rw [zqU,yb (by assumption),yH (if_pos hc) (by decide)]) (by decide)];exact .refl _
   .exact ⟨i+1,⟨by omega,zb0 hi.2 (zaj hx) (by rw [zqU,yb (by assumption),yb (if_neg (by omega)),yaA])⟩,by omega,by simp⟩
  .refine gE2 ?_;have e:i=(ziD l).length:=by simp [ziD];omega
   subst e;rw [zJ,if_neg (by omega),zbj hi.2];exact .refl _
def pure20 (r:Req):Pure prog 114 [r.pv] (.i .i64 (zbY r)):=by
 refine pz func114 f114.eq_1 λhw X hX=>?_
 repeat' first|refine gC ?_ ?_<;>intro hc<;>try contradiction|refine za (yC _) ?_|refine za (ybH _) ?_|refine za (yaI _ _ _) ?_|refine zg (λ_=>yaI _ _ _) ?_|refine za (yah r.per) ?_|refine gG ?_|show AK _;intro J Z|refine gJ ?_|omega|exact aT
 all_goals (refine weakI (Eq.symm ?_);rw [zbY];(repeat refine Eq.trans (yb (by first|exact yac (by assumption)|exact yaV (by assumption)|exact y6 (by assumption)|exact yap (by assumption)|exact zdR.2 (by omega)|exact yaS (by omega)|exact if_neg (by omega)|assumption)) ?_);first|rfl|exact yH (by first|exact yV (by assumption)|exact yaq (by assumption)|exact yO (by assumption)|exact yaQ (by assumption)|exact ybV (by omega)|exact if_pos (by omega)|rfl) (by first|decide|assumption)|(simp only [zn,rng,zyv];(repeat' split)<;>omega))
def fewB (p:Per) (n:Int):Bool:=!decide (zbx p=0) || decide (p.to - p.fro < n)
def yai (p:Per) (n:Int):Pure prog 145 [p.pv,.i .i64 n] (.b (fewB p n)):=by
 refine pz func145 f145.eq_1 λhw X hX=>?_
 by_cases h:zbx p=0
 .have hp:=zaI h;have h':=eq_true h;have qe:=@h';have jA:=yah p;refine gE2 ?_;simp only [fewB,h',decide_true,xaC,xb5];exact .refl _
 .have h':=eq_false h;have qe:=@h';have jA:=yah p;refine gE2 ?_;simp only [fewB,h',decide_false,xax,Bool.true_or];exact .refl _
def pure76 (l:Lim) (h:zr l=0):Pure prog 146 [l.pv] (.i .i64 (zkw l)):=by
 have hl:=zaa h;have hq1:(l.fro+l.step - 1).tdiv l.step=l.from_:=xbp (by omega)
 have hq2:l.to.tdiv l.step=l.to / l.step:=xbp (by omega)
 have hb1:0<=l.from_:=xbh (by omega) (by omega)
 have hb2:l.from_<=l.fro+l.step - 1:=xbr _ (by omega)
 have hb3:0<=l.to / l.step:=xbh (by omega) (by omega)
 have hb4:l.to / l.step<=l.to:=xbr _ (by omega)
 have hN:l.to / l.step - l.from_+1=(zkw l:Int):=by
  unfold zkw;have:(l.fro - 1) / l.step<=l.to / l.step:=Int.ediv_le_ediv (by omega) (by omega)
  have e:l.from_=(l.fro - 1) / l.step+1:=by unfold Lim.from_;rw [show l.fro+l.step - 1=l.fro - 1+1*l.step by omega,Int.add_mul_ediv_right _ _ (by omega)]
  omega
 refine pz func146 f146.eq_1 λhw X hX=>?_
 have qe:=aI @hq1 @hq2;refine gE2 ?_;rw [hN];exact .refl _
def natle (n:Nat):(decide ((n:Int)<=40))=decide (n<=40):=by simp;omega
def shReq (r:Req):Bool:=((decide (r.name.size<=40) && decide (r.kind.size<=40)) && decide (r.term.size<=40)) && fewB r.per 24
def pure17 (r:Req):Pure prog 113 [r.pv] (.b (shReq r)):=by
 refine pz func113 f113.eq_1 λhw X hX=>?_
 have jA:=yai r.per 24;have jB:=yai r.per 24;refine gE2 ?_;rw [shReq];refine zhe ?_;simp only [<-natle]
def ya7 {α:Type} {l:List α} {p:α->Bool} {x:α} (hx:l[i]?=some x) (hp:p x=false):l.all p=false:=by
 cases h:l.all p
 .rfl
 .rw [xaO] at h;rw [h x (xae hx)] at hp;exact hp
def yY {α:Type} {l:List α} {p:α->Bool} {x:α} (h:∀ y ∈ l.take i,p y=true) (hx:l[i]?=some x) (hp:p x=true):∀ y ∈ l.take (i+1),p y=true:=by
 intro y hy;rw [xaW,hx] at hy
 rcases xaS.1 hy with hy|hy
 .exact h y hy
 .simp at hy;subst hy;exact hp
def ya8 {α:Type} {l:List α} {p:α->Bool} (h:∀ y ∈ l.take l.length,p y=true):l.all p=true:=by
 rw [xah] at h;rw [xaO];exact h
theorem yaZ {α β:Type} {f:α->List β}:∀ {l:List α},(∀ x ∈ l,(f x).length<=c)->(l.flatMap f).length<=l.length*c
 | [],_=>by simp
 | x::r,h=>by
  have h1:=h x (by simp)
  have h2:=yaZ (l:=r) λy hy=>h y (by simp [hy])
  simp only [xat,xad,xaz,Nat.succ_mul];omega
def badLim (l:Lim):Bool:=((decide ((40:Int) < l.name.size) || decide ((40:Int) < l.kind.size)) || decide ((40:Int) < l.term.size)) || !fewB l.per 24
def yau {x:Lim} (h:(((40:Int) < x.name.size\/(40:Int) < x.kind.size)\/(40:Int) < x.term.size)\/fewB x.per 24=false):badLim x=true:=by
 simp only [badLim,xbg,decide_eq_true_eq,xbv];exact h
def yav {x:Lim} (h:(((x.name.size:Int)<=40/\(x.kind.size:Int)<=40)/\(x.term.size:Int)<=40)/\fewB x.per 24=true):badLim x=false:=by
 simp only [badLim,xbo,decide_eq_false_iff_not,xb6,Int.not_lt];exact h
def ybr (x:Lim):Int:=if zr x=0 then (zkw x:Int)*(zaK x.per).length else 0
def yaa (l:List Lim) (k:Nat):Int:=(l.take k).foldl (λa x=>a+ybr x) 0
def longL (l:List Lim) (n:Int):Bool:=(decide (n < l.length) && decide ((l.length:Int)<=32)) || decide (34 < (l.length:Int))
def yc (l:List Lim) (n:Int):Bool:=!longL l n && ((l.all λx=>!badLim x) && decide (yaa l l.length<=400))
def yx {l:List Lim} {k:Nat} {x:Lim} (h:l[k]?=some x):yaa l (k+1)=yaa l k+ybr x:=by
 rw [yaa,xaW,h,xaP];rfl
def ya6 {l:Lim} (h:zr l=0):zkw l<=1440:=by
 have hl:=zaa h;have h1:0<=l.from_:=xbh (by omega) (by omega)
 have h2:l.to / l.step<=l.to:=xbr _ (by omega)
 unfold zkw;omega
def yaU (x:Lim):0<=ybr x/\ybr x<=577440:=by
 unfold ybr
 split
 .rename_i h;have h1:=ya6 h;have hp:=zaI (zaa h).2.2.2.2.2.2.2.1;have h2:=zeN x.per;have h3:(zaK x.per).length<=401:=by omega
  have h4:zkw x*(zaK x.per).length<=1440*401:=Nat.mul_le_mul h1 h3
  omega
 .omega
def ybU (l:List Lim) (k:Nat):0<=yaa l k/\yaa l k<=k*577440:=by
 induction k with
 | zero=>simp [yaa]
 | succ k ih=>
  by_cases hk:k < l.length
  .rw [yx (xac hk)];have:=yaU l[k]
   omega
  .have:yaa l (k+1)=yaa l k:=by rw [yaa,yaa,xas (by omega),xas (by omega)]
   omega
def pure15 (l:List Lim) (n:Int):Pure prog 72 [.sl 11 (l.map Lim.pv),.i .i64 n] (.b (yc l n)):=by
 refine pz func72 f72.eq_1 λhw X hX=>?_
 simp only [wfs,PV.wf,xaf,maxLen] at hw;refine gF2 (λhc=>?_) λhc=>?_
 .have:longL l n=true:=by simpa [longL] using hc
  rw [yc,this];exact .refl _
 have hsh:longL l n=false:=by simpa [longL] using hc
 have h34:l.length<=34:=by omega
 refine zh (κ:=Nat) (λi=>⟨[(0,.p (.sl 11 (l.map Lim.pv))),(5,.p (.i .i64 (yaa l i))),(6,.p (.i .i64 i))],[],[],false⟩) (λi=>i<=l.length/\∀ x ∈ l.take i,(!badLim x)=true) (λi=>l.length - i) 0 ?_ ?_ ?_
 .simp only [qS,Nat.reduceAdd,Nat.reduceMul,Nat.reduceEqDiff,Nat.reduceLeDiff,reduceIte,reduceCtorEq,Nat.reduceBEq,Nat.reduceLT]<;>exact ⟨rfl,rfl⟩
 .simp
 .intro i hi;have hsb:=ybU l i;refine gH (λhc=>?_) λhc=>?_
  .obtain ⟨x,hx⟩:=zj (i:=i) (l:=l) (by omega)
   have hsn:=yx hx;have hlb:=yaU x
   by_cases h0:zr x=0
   .have h0':=eq_true h0;have hlx:=zaa h0;have hbn:=ya6 h0;have hdn:=zeN x.per;have hpp:=zaI hlx.2.2.2.2.2.2.2.1;rw [ybr,if_pos h0] at hsn hlb;have qe:=aI qR (aI @hx @h0');repeat' first|refine gC ?_ ?_<;>intro hc<;>try contradiction|refine za (yaJ x) ?_|refine za (pure76 x h0) ?_|refine za (pure67 x.per hlx.2.2.2.2.2.2.2.1) ?_|refine zg (λ_=>yai x.per 24) ?_|refine gG ?_|show AK _;intro J Z|refine gJ ?_|omega|exact aT
    .rw [yc,hsh,ya7 hx (by rw [yau hc];rfl)];exact .refl _
    .exact ⟨i+1,⟨by omega,λy hy=>by simpa using yY (p:=λx=>!badLim x) (λy hy=>by simpa using hi.2 y hy) hx (by rw [yav (by assumption)];rfl) y hy⟩,by omega,by rw [hsn],by simp⟩
   .have h0':=eq_false h0;rw [ybr,if_neg h0] at hsn hlb;have qe:=aI qR (aI @hx @h0');repeat' first|refine gC ?_ ?_<;>intro hc<;>try contradiction|refine za (yaJ x) ?_|refine zg (λ_=>yai x.per 24) ?_|refine gG ?_|show AK _;intro J Z|refine gJ ?_|omega|exact aT
    .rw [yc,hsh,ya7 hx (by rw [yau hc];rfl)];exact .refl _
    .exact ⟨i+1,⟨by omega,λy hy=>by simpa using yY (p:=λx=>!badLim x) (λy hy=>by simpa using hi.2 y hy) hx (by rw [yav (by assumption)];rfl) y hy⟩,by omega,by rw [hsn,Int.add_zero],by simp⟩
  .refine gE2 ?_;have e:i=l.length:=by omega
   subst e;rw [yc,hsh,ya8 hi.2];exact .refl _
theorem yP {α β:Type} {f:α->List β}:∀ {l:List α},(∀ x ∈ l,(f x).length=c)->(l.flatMap f).length=l.length*c
 | [],_=>by simp
 | x::r,h=>by
  have h1:=h x (by simp)
  have h2:=yP (l:=r) λy hy=>h y (by simp [hy])
  simp only [xat,xad,xaz,Nat.succ_mul];omega
def yZ {l:Lim} (h:zr l=0):((zaq l).length:Int)=ybr l:=by
 rw [ze0 h,ybr,if_pos h,yP (c:=zkw l) (λd _=>by simp [zno])]
 rw [Int.natCast_mul,Int.mul_comm]
theorem ybO:∀ (a b:List Int),zn (a++b)=if zn a=0 then zn b else zn a
 | [],b=>by simp [zn]
 | x::r,b=>by
  by_cases h:x=0
  .simp only [xaM,zn,if_pos h,ybO r b]
  .simp only [xaM,zn,if_neg h]
def yaG {α:Type} {c:α->α->Int} (hs:SW (zaJ c)) (L:List α):srt (zaJ c) (zz c L):=by rw [zz,zd8 hs];exact zaU hs L
def yL (m e l s:Int) (j:Nat):List Int:=(if e<=m - j*s then [m - j*s] else [])++(if 0 < (j:Int)*s/\m+j*s<=l then [m+j*s] else [])
def y9 (m e l s:Int) (K:Nat):List Int:=(List.range K).flatMap (yL m e l s)
def ltC (m a b:Int):Prop:=zdV (a - m) < zdV (b - m)\/(zdV (a - m)=zdV (b - m)/\a < b)
def ya2 (m a b:Int):cmpC m a b < 0↔ltC m a b:=by
 unfold cmpC ltC;simp only [zn]
 by_cases h:zdV (a - m)=zdV (b - m)
 .rw [if_pos ((zgZ _ _).2 h)]
  by_cases h2:zi9 a b=0
  .rw [if_pos h2];have:=(zgZ _ _).1 h2;omega
  .rw [if_neg h2,zgY];omega
 .rw [if_neg λk=>h ((zgZ _ _).1 k),zgY];omega
def yaR (m a:Int):¬ltC m a a:=by unfold ltC;omega
def ybK (m a b c:Int) (h:ltC m a b) (k:ltC m b c):ltC m a c:=by unfold ltC at *;omega
def yu {l s:Int} (hs:1<=s):x ∈ yL m e l s j↔(x=m - j*s/\e<=x)\/(x=m+j*s/\0 < (j:Int)*s/\x<=l):=by
 unfold yL;rw [xaS]
 constructor
 .rintro (h|h)
  .split at h
   .simp at h;subst h;exact .inl ⟨rfl,by assumption⟩
   .simp at h
  .split at h
   .rename_i h2;simp at h;subst h;exact .inr ⟨rfl,h2.1,h2.2⟩
   .simp at h
 .rintro (⟨rfl,h⟩|⟨rfl,h1,h2⟩)
  .left;rw [if_pos h];simp
  .right;rw [if_pos ⟨h1,h2⟩];simp
def yw {d:Int} (h:0<=d):zdV (m - d - m)=d/\zdV (m+d - m)=d:=by unfold zdV;omega
def yat {l s:Int} (hs:1<=s) (h:x ∈ yL m e l s j):zdV (x - m)=j*s:=by
 have hj:0<=(j:Int)*s:=Int.mul_nonneg (by omega) (by omega)
 rcases (yu hs).1 h with ⟨rfl,_⟩|⟨rfl,_⟩
 .exact (yw hj).1
 .exact (yw hj).2
theorem yas {l s:Int} (hs:1<=s):∀ K,(y9 m e l s K).Pairwise (ltC m)
 | 0=>by simp [y9]
 | K+1=>by
  rw [y9,zbE,<-y9];refine xcq.2 ⟨yas hs K,?_,λa ha b hb=>?_⟩
  .unfold yL
   split<;>split<;>simp
   rename_i h1 h2
   right
   have hj:0<=(K:Int)*s:=by omega
   exact ⟨by rw [(yw hj).1,(yw hj).2],by omega⟩
  .obtain ⟨j,hj,ha⟩:=xaw.1 ha;have hj:j < K:=by simpa using hj
   left
   rw [yat hs ha,yat hs hb];exact Int.mul_lt_mul_of_pos_right (by omega) (by omega)
def yaC {l s:Int} (hs:1<=s):(zkM m e l s).Nodup:=by
 unfold zkM;refine xca.2 (List.nodup_range.imp fun {a b} h k=>h ?_)
 have:(a:Int)*s=b*s:=by omega
 have:=Int.eq_of_mul_eq_mul_right (show s≠0 by omega) this
 omega
def ybz {l s:Int} (hs:1<=s) (h1:e<=m) (h2:m<=l) (he:0<=e) (hl:l<=1439) (hK:1440<=(K:Int)*s):x ∈ y9 m e l s K↔e<=x/\x<=l/\∃ k:Int,x=m+k*s:=by
 unfold y9;rw [xaw]
 constructor
 .rintro ⟨j,hj,hx⟩;have hj0:0<=(j:Int)*s:=Int.mul_nonneg (by omega) (by omega)
  rcases (yu hs).1 hx with ⟨rfl,h⟩|⟨rfl,h,h3⟩
  .exact ⟨h,by omega,-(j:Int),by rw [Int.neg_mul];omega⟩
  .exact ⟨by omega,h3,j,rfl⟩
 .rintro ⟨g1,g2,k,rfl⟩;have lt_of:∀ j:Nat,(j:Int)*s<=1439->j < K:=λj hj=>by
   refine Decidable.byContradiction λhk=>?_
   have:(K:Int)*s<=j*s:=Int.mul_le_mul_of_nonneg_right (by omega) (by omega)
   omega
  by_cases hk:0 < k
  .have e1:((k.toNat:Nat):Int)=k:=xbm (by omega)
   have hp:0 < k*s:=Int.mul_pos hk (by omega)
   exact ⟨k.toNat,xaG.2 (lt_of _ (by rw [e1];omega)),(yu hs).2 (.inr ⟨by rw [e1],by rw [e1];exact hp,g2⟩)⟩
  .have e1:(((-k).toNat:Nat):Int)=-k:=xbm (by omega)
   have e2:(-k)*s=-(k*s):=Int.neg_mul ..;exact ⟨(-k).toNat,xaG.2 (lt_of _ (by rw [e1,e2];omega)),(yu hs).2 (.inl ⟨by rw [e1,e2];omega,g1⟩)⟩
def yci (m:Int):SW (zaJ (cmpC m)) where
 asym x y h:=by
  simp only [zaJ,decide_eq_true_eq,decide_eq_false_iff_not,ya2] at h ⊢;exact λk=>yaR m x (ybK m _ _ _ h k)
 nt x y z h k:=by
  simp only [zaJ,decide_eq_false_iff_not,ya2] at h k ⊢;unfold ltC at *;omega
def can_eq {l s:Int} (hs:1<=s) (h1:e<=m) (h2:m<=l) (he:0<=e) (hl:l<=1439) (hK:1440<=(K:Int)*s):zz (cmpC m) (zkM m e l s)=y9 m e l s K:=by
 have hp:=zhs (cmpC m) (zkM m e l s);have hnd:(zz (cmpC m) (zkM m e l s)).Nodup:=hp.symm.nodup (yaC hs);have hsr:=yaG (yci m) (zkM m e l s);refine zpx (yaR m) (ybK m) ?_ (yas hs K) λx=>?_
 .refine (hsr.and hnd).imp fun {a b} h=>?_
  have h3:=h.1;simp only [zaJ,decide_eq_false_iff_not,ya2] at h3;have h4:=h.2;unfold ltC zdV at *;omega
 .rw [hp.mem_iff,zvF hs h1 h2,ybz hs h1 h2 he hl hK]
section
variable {α:Type}
end
theorem yt {α β:Type} {f g:α->List β}:∀ {L:List α},(∀ x ∈ L,f x=g x)->L.flatMap f=L.flatMap g
 | [],_=>rfl
 | x::L,h=>by rw [xat,xat,h x (by simp),yt λy hy=>h y (by simp [hy])]
def ybY {f:FuncId} {ps qs:List PV} {r:PV} (h:Pure P f qs r) (hw:Wks ps qs):Pure P f ps r:=by
 obtain ⟨h1,h2⟩:=hw.at;refine ⟨h.1,λw B vs hB hv=>h.2 w B vs hB ⟨by rw [hv.1,h1],λj v q hj hq=>?_⟩⟩
 have hlt:j < ps.length:=by rw [h1];exact (xaa.1 hq).1
 exact h2 j _ q (xac hlt) hq w B v (hv.2 j v _ hj (xac hlt))
def ybN (l r:List Int):zn (zn l::r)=zn (l++r):=by
 rw [ybO]
 by_cases h:zn l=0
 .rw [zro h,if_pos h]
 .rw [zlL h,if_neg h]
theorem fE_of:∀ {l:List Int},(∀ x ∈ l,x=0)->zn l=0
 | [],_=>rfl
 | x::r,h=>zi.2 ⟨h x (by simp),fE_of λy hy=>h y (by simp [hy])⟩
def y4 {α:Type} {f:Nat->α->Int} {l:List α} (h:∀ i x,l[i]?=some x->f i x=0):zn (l.mapIdx f)=0:=fE_of λy hy=>by
 obtain ⟨i,hi⟩:=xbl.1 hy;rw [xcp] at hi;cases hx:l[i]? with
 | none=>rw [hx] at hi;cases hi
 | some x=>
  rw [hx] at hi;have e:f i x=y:=xa5 hi;rw [<-e];exact h i x hx
def yb9 {m:List Mov}:yby ls m=[]↔∀ l ∈ ls,∀ b ∈ zaq l,zbb l m b<=l.most:=by
 unfold yby excK
 constructor
 .intro h l hm b hb;obtain ⟨i,hi⟩:=xbl.1 hm;have hlt:=(xaa.1 hi).1;have h1:=List.flatMap_eq_nil_iff.1 h i (xaG.2 hlt);rw [excI,hi] at h1;have h2:=List.flatMap_eq_nil_iff.1 h1 b hb;rw [excB] at h2
  split at h2
  .cases h2
  .omega
 .intro h;refine List.flatMap_eq_nil_iff.2 λi _=>?_
  unfold excI;split
  .rename_i l hi;refine List.flatMap_eq_nil_iff.2 λb hb=>?_
   have:=h l (xae hi) b hb;rw [excB,if_neg (by omega)]
  .rfl
theorem yar {β:Type} {k:Ky} {v:β}:∀ {E:List (Ky × β)},ziL k E=some v->(k,v) ∈ E
 | [],h=>by cases h
 | x::E,h=>by
  rw [ziL] at h
  split at h
  .rename_i e;injection h with h;subst e;subst h;exact xaA
  .exact xaH _ (yar h)
theorem yaW {β:Type} {k:Ky} {v:β}:∀ {E:List (Ky × β)},(E.map (·.1)).Nodup->(k,v) ∈ E->ziL k E=some v
 | [],_,h=>by cases h
 | x::E,hn,h=>by
  obtain ⟨h1,h2⟩:=xbR.1 hn;rw [ziL]
  rcases xaI.1 h with rfl|h
  .rw [if_pos rfl]
  .rw [if_neg λe=>h1 (xaN.2 ⟨(k,v),h,e.symm⟩)];exact yaW h2 h
def exB_eq (hl:∀ l ∈ ls,zr l=0) {b:Brd} {P:List Mov} (h:zeV ls b P):exB ls b=true↔yby ls P≠[]:=by
 unfold exB;rw [xaV]
 constructor
 .rintro ⟨e,he,hx⟩;obtain ⟨l,k1,k2⟩:=h.1.w e he;have hc:=h.2 e.1 l k1 k2;have hg:ziL e.1 b.C=some e.2:=yaW h.1.n he;rw [zbh,hg] at hc;have hc:e.2=zbb l P e.1.2:=hc;have hm:zdn ls (e.1.1:Int)=l.most:=by simp only [zdn,xam,k1]
  have hx:=of_decide_eq_true hx;refine List.ne_nil_of_mem (a:=(⟨e.1.1,e.1.2,zbb l P e.1.2⟩:Win)) ?_;unfold yby excK;refine xaw.2 ⟨e.1.1,xaG.2 (xaa.1 k1).1,?_⟩;unfold excI;rw [k1];simp only;unfold excL;refine xaw.2 ⟨e.1.2,k2,?_⟩;unfold excB;rw [if_pos (by omega)];simp
 .intro hne;obtain ⟨w,hw⟩:=List.exists_mem_of_ne_nil _ hne;unfold yby excK at hw;obtain ⟨i,_,hw⟩:=xaw.1 hw;unfold excI at hw;cases hi:ls[i]? with
  | none=>rw [hi] at hw;cases hw
  | some l=>
   rw [hi] at hw;simp only at hw;unfold excL at hw;obtain ⟨x,hx,hw⟩:=xaw.1 hw;unfold excB at hw;have h0:=zaa (hl l (xae hi))
   split at hw
   .rename_i hlt;have hc:=h.2 (i,x) l hi hx;have hm:zdn ls (i:Int)=l.most:=by simp only [zdn,xam,hi]
    cases hg:ziL (i,x) b.C with
    | none=>
     rw [zbh,hg] at hc;have hc:0=zbb l P x:=hc
     omega
    | some n=>
     rw [zbh,hg] at hc;have hc:n=zbb l P x:=hc;refine ⟨((i,x),n),yar hg,decide_eq_true ?_⟩;show zdn ls (i:Int) < n
     omega
   .cases hw
def ybx (hl:∀ l ∈ ls,zr l=0) {a b:List Mov} (hp:a.Perm b):yby ls a=yby ls b:=by
 unfold yby excK;refine zcK λi _=>?_
 unfold excI;cases hi:ls[i]? with
 | none=>rfl
 | some l=>
  have h0:=zaa (hl l (xae hi));simp only [];unfold excL;refine zcK λx _=>?_
  unfold excB;rw [zng (by omega) hp]
def ybD (hl:∀ l ∈ ls,zr l=0) (L:List Wis) (R:List Res) (f:Nat->Bool):exB ls (zy ls ⟨[],[]⟩ (zlk L R f) 1)=true↔yby ls (zlk L R f)≠[]:=by
 rw [exB_eq hl (zsb hl L R f),ybx hl (zgx L R f)]
open Go.RowKit Go.Proofs.Tryz Go.ChangeShapes Go.WideShapes Go.ChangeAt
abbrev jT:CP:=.i .i64
def limT6:List CP:=[.s,.s,.s,jT,jT,jT,jT,jT,jT,jT,jT]
def ybS:List CP:=[.s,.s,.s,.s,.s,.s,jT,jT,jT,jT,jT,jT,jT,jT,jT,jT,jT,jT]
theorem yad {α:Type} {f:α->PV}:∀ {xs:List PV},(∀ x ∈ xs,∃ a,x=f a)->∃ L:List α,xs=L.map f
 | [],_=>⟨[],rfl⟩
 | x::r,h=>by
  obtain ⟨a,rfl⟩:=h x (by simp)
  obtain ⟨L,rfl⟩:=yad (xs:=r) λy hy=>h y (by simp [hy])
  exact ⟨a::L,rfl⟩
def ybw (h:FitAll (Fit n) (.s::cs) l):∃ (a:ByteArray) (r:List PV),l=.s a::r/\FitAll (Fit n) cs r:=by
 cases l with
 | nil=>exact absurd h (by simp [FitAll])
 | cons x r=>
  obtain ⟨h1,h2⟩:=h;cases n<;>(obtain ⟨a,rfl⟩:=h1;exact ⟨a,r,rfl,h2⟩)
def yQ (h:FitAll (Fit n) (jT::cs) l):∃ (a:Int) (r:List PV),l=.i .i64 a::r/\FitAll (Fit n) cs r:=by
 cases l with
 | nil=>exact absurd h (by simp [FitAll])
 | cons x r=>
  obtain ⟨h1,h2⟩:=h;cases n<;>(obtain ⟨a,rfl⟩:=h1;exact ⟨a,r,rfl,h2⟩)
def ybM (h:FitAll (Fit n) [] l):l=[]:=by
 cases l with
 | nil=>rfl
 | cons x r=>exact absurd h (by simp [FitAll])
def yb5 (h:FitAll (Fit n) limT6 l):∃ x:Lim,.agg l=x.pv:=by
 obtain ⟨v0,r0,e0,g0⟩:=ybw h;obtain ⟨v1,r1,e1,g1⟩:=ybw g0;obtain ⟨v2,r2,e2,g2⟩:=ybw g1;obtain ⟨v3,r3,e3,g3⟩:=yQ g2;obtain ⟨v4,r4,e4,g4⟩:=yQ g3;obtain ⟨v5,r5,e5,g5⟩:=yQ g4;obtain ⟨v6,r6,e6,g6⟩:=yQ g5;obtain ⟨v7,r7,e7,g7⟩:=yQ g6;obtain ⟨v8,r8,e8,g8⟩:=yQ g7;obtain ⟨v9,r9,e9,g9⟩:=yQ g8;obtain ⟨v10,r10,e10,g10⟩:=yQ g9;have e:=ybM g10;subst e0 e1 e2 e3 e4 e5 e6 e7 e8 e9 e10 e;exact ⟨⟨v0,v1,v2,v3,v4,v5,v6,⟨v7,v8,v9⟩,v10⟩,rfl⟩
def yaD (h:FitAll (Fit n) ybS l):∃ x:Wis,.agg l=x.pv:=by
 obtain ⟨v0,r0,e0,g0⟩:=ybw h;obtain ⟨v1,r1,e1,g1⟩:=ybw g0;obtain ⟨v2,r2,e2,g2⟩:=ybw g1;obtain ⟨v3,r3,e3,g3⟩:=ybw g2;obtain ⟨v4,r4,e4,g4⟩:=ybw g3;obtain ⟨v5,r5,e5,g5⟩:=ybw g4;obtain ⟨v6,r6,e6,g6⟩:=yQ g5;obtain ⟨v7,r7,e7,g7⟩:=yQ g6;obtain ⟨v8,r8,e8,g8⟩:=yQ g7;obtain ⟨v9,r9,e9,g9⟩:=yQ g8;obtain ⟨v10,r10,e10,g10⟩:=yQ g9;obtain ⟨v11,r11,e11,g11⟩:=yQ g10;obtain ⟨v12,r12,e12,g12⟩:=yQ g11;obtain ⟨v13,r13,e13,g13⟩:=yQ g12;obtain ⟨v14,r14,e14,g14⟩:=yQ g13;obtain ⟨v15,r15,e15,g15⟩:=yQ g14;obtain ⟨v16,r16,e16,g16⟩:=yQ g15;obtain ⟨v17,r17,e17,g17⟩:=yQ g16;have e:=ybM g17;subst e0 e1 e2 e3 e4 e5 e6 e7 e8 e9 e10 e11 e12 e13 e14 e15 e16 e17 e;exact ⟨⟨⟨v0,v1,v2,v3,v4,v5,⟨v6,v7,v8⟩,v9,v10,v11,v12⟩,v13,v14,v15,v16,v17⟩,rfl⟩
def yaP:ybJ prog 6 22=some (false,[.sl true limT6]):=by kernel_rfl
def yaE:prog.underlying 22=some (.slice 84):=by kernel_rfl
def ya5:prog.bytesOf 84=112:=by kernel_rfl
def ya0 (h:yJ prog 6 22 p):∃ L:List Lim,p=.sl 11 (L.map Lim.pv)/\L.length*112<=140737488355328:=by
 obtain ⟨⟨ag,c,l,hp,rfl,hl⟩,hb⟩:=h;rw [yaP] at hp;simp only [xaK,xcf] at hp;obtain ⟨rfl,rfl⟩:=hp
 match l,hl with
 | [q],⟨⟨xs,hq,hx⟩,_⟩=>
  subst hq;obtain ⟨L,rfl⟩:=yad (f:=Lim.pv) (xs:=xs) λx h=>by
   obtain ⟨l,rfl,hf⟩:=hx x h;exact yb5 hf
  refine ⟨L,rfl,?_⟩;have:=hb.1 84 _ _ yaE rfl;rw [ya5,xaf] at this;unfold reachBytes at this;omega
def ybn:ybJ prog 6 23=some (false,[.sl true ybS]):=by kernel_rfl
def yba:prog.underlying 23=some (.slice 61):=by kernel_rfl
def ybC:prog.bytesOf 61=192:=by kernel_rfl
def ybu (h:yJ prog 6 23 p):∃ L:List Wis,p=.sl 18 (L.map Wis.pv)/\L.length*192<=140737488355328:=by
 obtain ⟨⟨ag,c,l,hp,rfl,hl⟩,hb⟩:=h;rw [ybn] at hp;simp only [xaK,xcf] at hp;obtain ⟨rfl,rfl⟩:=hp
 match l,hl with
 | [q],⟨⟨xs,hq,hx⟩,_⟩=>
  subst hq;obtain ⟨L,rfl⟩:=yad (f:=Wis.pv) (xs:=xs) λx h=>by
   obtain ⟨l,rfl,hf⟩:=hx x h;exact yaD hf
  refine ⟨L,rfl,?_⟩;have:=hb.1 61 _ _ yba rfl;rw [ybC,xaf] at this;unfold reachBytes at this;omega
def own:ownKnob prog.godebug=none:=by kernel_rfl
def laid:laidOutB prog=true:=by kernel_rfl
def und4:prog.underlying 4=some .bool:=by kernel_rfl
abbrev vzS:Value:=.string ⟨#[]⟩
abbrev vzI:Value:=.int .i64 0
def yaX {f:FuncId} {fn:Func} {s:ChangeSpec} {c:OpenClaim} (a1:c.wf (OpenSpec.ofChange s)=true) (a2:laidOutB P=true) (a3:mapsRowed P=true)
  (a4:(fn.params.all (P.readableRec ·) && namedTie P c.named s.vars && (c.stops == []) && (P.stops == []) && (c.knobs == []) && (P.stopKnobs == []))=true)
  (b1:(c.inPlace == P.inPlace f)=true) (b2:(c.unfollowed == P.unfollowed f)=true) (b3:(c.recurses == P.recurses f)=true) (b4:(c.named == P.varsNamed f)=true)
  (d1:((c.maps == (fn.params.toList++s.plain.varTypes P).any (P.mapsRec ·)) && (c.ifaces == (fn.params.toList++s.plain.varTypes P).any (P.ifacesRec ·)) && (c.mapsOut == P.mapsAmong fn.resultTypes.toList) &&
 (c.loops == (fn.params.toList++s.plain.varTypes P).any (P.loopsFrom ·)) && (c.wideKeys == (fn.params.toList++s.plain.varTypes P++fn.resultTypes.toList).any (P.wideKeysFrom ·)))=true)
  (d2:(s.vars.all (P.varReadable ·) && fn.resultTypes.all (λt=>P.readableRec t && decide (t < P.types.size)) && (c.ifacesOut == fn.resultTypes.toList.any (P.ifacesRec ·)) && (c.loopsOut == fn.resultTypes.toList.any (P.loopsFrom ·)))=true)
  (d3:((c.plainKeys == P.plainKeys) && c.shortTexts.isNone && P.stopsHeard && P.mayEnter && (c.lifted == P.liftsFinal) && (P.make == some c.make))=true)
  (d4:((c.kinds == (if c.domain.isEmpty then [] else fn.params.toList.map λt=>match P.underlying t with|some (.int k)=>some k|_=>none)) && (c.pinned == c.pinnedBy))=true)
  (d5:((c.veiled == (fn.params.toList++s.plain.varTypes P++fn.resultTypes.toList).any (P.veiledRec ·)) && c.veiledFits P fn.params.toList (fn.params.toList++s.plain.varTypes P++fn.resultTypes.toList))=true):joinedFacts P f fn s c=true:=by
 unfold joinedFacts;simp only [xau] at a4 d1 d2 d3 d4 d5 ⊢;obtain ⟨⟨⟨⟨⟨a4,a5⟩,a6⟩,a7⟩,a8⟩,a9⟩:=a4;obtain ⟨⟨⟨⟨e1,e2⟩,e3⟩,e4⟩,e5⟩:=d1;obtain ⟨⟨⟨e6,e7⟩,e8⟩,e9⟩:=d2;obtain ⟨⟨⟨⟨⟨f1,f2⟩,f3⟩,f4⟩,f5⟩,f6⟩:=d3;obtain ⟨f7,f8⟩:=d4;obtain ⟨f9,g1⟩:=d5;exact ⟨⟨⟨⟨⟨⟨⟨⟨⟨⟨⟨⟨⟨⟨⟨⟨⟨⟨⟨⟨⟨⟨⟨⟨⟨⟨⟨⟨⟨⟨⟨a1,a2⟩,a3⟩,a4⟩,a5⟩,a6⟩,a7⟩,a8⟩,a9⟩,b1⟩,b2⟩,b3⟩,b4⟩,e1⟩,e2⟩,e3⟩,e4⟩,e5⟩,e6⟩,e7⟩,e8⟩,e9⟩,f1⟩,f2⟩,f3⟩,f4⟩,f5⟩,f6⟩,f7⟩,f8⟩,f9⟩,g1⟩
def rowed:mapsRowed prog=true:=by kernel_rfl
open Go.RowKit Go.Proofs.Tryz
def kS (s:Int):Nat:=(1439 / s+1).toNat
def yb6 {s:Int} (hs:1<=s) (j:Nat):j < kS s↔(j:Int)*s < 1440:=by
 have h3:0<=1439 / s:=xbh (by omega) (by omega)
 have h4:=Int.le_ediv_iff_mul_le (a:=(j:Int)) (b:=1439) (c:=s) (by omega)
 unfold kS
 constructor
 .intro h;have:=h4.1 (by omega)
  omega
 .intro h;have:=h4.2 (by omega)
  omega
def ybP (hs:1<=w.step) (h1:w.ear<=w.req.minute) (h2:w.req.minute<=w.lat) (he:0<=w.ear) (hl:w.lat<=1439):zac w=y9 w.req.minute w.ear w.lat w.step (kS w.step):=
 can_eq hs h1 h2 he hl (by
  have:=yb6 hs (kS w.step)
  omega)
def yX (w:Wis):(zac w).length=zg2 w.req.minute w.ear w.lat w.step:=by
 unfold zac;rw [(zhs _ _).length_eq];unfold zkM;rw [xaf,xaU]
def ybB (m e l s:Int) (j:Nat):(yL m e l s j).length<=2:=by
 unfold yL
 split<;>split<;>simp
def ybA (m e l s:Int) (K:Nat):(y9 m e l s K).length<=2*K:=by
 unfold y9;have:=yaZ (f:=yL m e l s) (c:=2) (l:=List.range K) λj _=>ybB m e l s j
 rw [xaU] at this;omega
def ya4 (m e l s:Int) (K:Nat):y9 m e l s (K+1)=y9 m e l s K++yL m e l s K:=zbE _ _
def ybt (h:L[i]?=some w):zeH w.req.name L < i↔0<=zeH w.req.name (L.take i):=by
 have hm:(zkG L)[i]?=some w.req.name:=by unfold zkG;rw [xal,h];rfl
 unfold zeH;have e:zkG (L.take i)=(zkG L).take i:=by unfold zkG;rw [xbK]
 rw [e];generalize zkG L=M at *;generalize w.req.name=n at *;have key:∀ (M:List ByteArray) (i:Nat),M[i]?=some n->(atL n M < i↔0<=atL n (M.take i)):=by
  intro M
  induction M with
  | nil=>intro i hi;simp at hi
  | cons x M ih=>
   intro i hi;cases i with
   | zero=>
    have:-1<=atL n ([]:List ByteArray):=zr9 n [];simp at hi;subst hi;simp [atL]
   | succ i=>
    have hi':M[i]?=some n:=by simpa using hi
    have ih:=ih i hi';rw [xa3]
    by_cases hx:x=n
    .simp [atL,hx]
    .have h1:=zr9 n M;have h2:=zr9 n (M.take i);have h3:0<=atL n M:=(zg5 n M).2 (xae hi')
     by_cases h0:0<=atL n (M.take i)
     .simp [atL,hx];omega
     .simp [atL,hx];omega
 exact key M i hm
def ybR (h:zfI w=0):zbY w.req=0/\0<=w.ear/\w.ear<=w.req.minute/\w.req.minute<=w.lat/\w.lat<=1439/\1<=w.step/\w.step<=120:=by
 have h1:=zjq (zcC h).1;obtain ⟨a1,a2,a3,a4,a5,a6,a7⟩:=h1;exact ⟨a1,by omega,by omega,by omega,by omega,by omega,by omega⟩
def wis_e6 (h:zav L=0) {a:Wis} (ha:L[i]?=some a):zfI a=0:=by
 have:=((zR h).2 i a ha).1;unfold zcB at this;exact (zi.1 this).1
def RsOk (L:List Wis) (R:List Res):Prop:=R.length=L.length/\∀ r ∈ R,r.gr=true->0<=r.minute/\r.minute<=1439
def yal (l:List Int):Pure prog 19 [.sl 1 (l.map (.i .i64))] (.i .i64 (zn l)):=by
 refine pz func19 f19.eq_1 λhw X hX=>?_
 simp only [wfs,PV.wf,xaf,maxLen] at hw;refine gE2 ?_;refine zh (κ:=Nat) (λi=>⟨[(0,.p (.sl 1 (l.map (.i .i64)))),(3,.p (.i .i64 i))],[],[],false⟩) (λi=>i<=l.length/\∀ x ∈ l.take i,x=0) (λi=>l.length - i) 0 ?_ ?_ ?_
 .exact sR
 .simp
 .intro i hi;refine gH (λhc=>?_) λhc=>?_
  .obtain ⟨x,hx⟩:=zj (i:=i) (l:=l) (by omega)
   have qe:=@hx;refine gF2 (λhc=>?_) λhc=>?_
   .rw [zbr hi.2 hx hc];exact .refl _
   .exact ⟨i+1,⟨by omega,zb0 hi.2 hx hc⟩,by omega,by simp⟩
  .refine gE2 ?_;have e:i=l.length:=by omega
   subst e;rw [zbj hi.2];exact .refl _
def ybc (s:ByteArray):Pure prog 116 [.s s] (.i .i64 (zo6 s)):=by
 refine pz func116 f116.eq_1 λhw X hX=>?_
 by_cases h1:s=s0
 .have h1':=eq_true h1;have e:zo6 s=0:=yap (.inl h1);rw [e];have qe:=aI qR (aI @h1' @xaC);have jA:=yC s;exact gD2
 .have h1':=eq_false h1;cases h2:zcs s with
  | true=>
   have h70:=yC s;rw [h2] at h70;have e:zo6 s=0:=yap (.inr h2);rw [e];have qe:=aI qR (aI @h1' (aI @xax @xaC));have jA:=h70;exact gD2
  | false=>
   have h70:=yC s;rw [h2] at h70;have e:zo6 s=8:=yaQ ⟨h1,h2⟩;rw [e];have qe:=aI qR (aI @h1' @xax);have jA:=h70;exact gD2
def yS (n a b:Int):Pure prog 117 [.i .i64 n,.i .i64 a,.i .i64 b] (.i .i64 (rng n a b)):=by
 refine pz func117 f117.eq_1 λhw X hX=>?_
 refine gF2 (λhc=>?_) λhc=>?_
 .rw [ybV (by omega)];exact .refl _
 .rw [zdR.2 (by omega)];exact .refl _
def yaj (w:Wis) (hs:1<=w.step/\w.step<=120) (h1:w.ear<=w.req.minute) (h2:w.req.minute<=w.lat) (he:0<=w.ear) (hl:w.lat<=1439):Pure prog 47 [w.pv] (.sl 1 ((zac w).map (.i .i64))):=by
 rw [ybP hs.1 h1 h2 he hl];have hk:=yb6 hs.1;have hkb:∀ j:Nat,(j:Int)<=j*w.step:=λj=>by
  have:=Int.mul_le_mul_of_nonneg_left hs.1 (show (0:Int)<=j by omega)
  omega
 refine pz func47 f47.eq_1 λhw X hX=>?_
 have qe:=@qR;refine gE2 ?_;refine run_ownL 100 3 1 (κ:=Nat) (λj=>⟨[(1,.lp 1 0),(3,.row 100 (y9 w.req.minute w.ear w.lat w.step j).length),(4,.p (.i .i64 (j*w.step)))],[(1,.box (w.cells.map .p) false),(100,.row 3 1 ((y9 w.req.minute w.ear w.lat w.step j).map (.i .i64)) false)],[],false⟩) (λj=>j<=kS w.step) (λj=>kS w.step - j) 0 ?_ ?_ ?_
 .refine ⟨gO ?_,gO ?_⟩<;>simp [y9]
 .simp
 .intro j hj;have hj2:=hk j;have hjb:=hkb j;have hn:=ya4 w.req.minute w.ear w.lat w.step j;have hcl:=ybA w.req.minute w.ear w.lat w.step j;have hm1:((j+1:Nat):Int)*w.step=j*w.step+w.step:=by push_cast;rw [Int.add_mul];omega
  generalize hd:(j:Int)*w.step=d at *;refine gH (λhc=>?_) λhc=>?_
  .have hjk:j < kS w.step:=hj2.2 hc;have hd0:0<=d:=by omega
   by_cases a1:w.ear<=w.req.minute - d
   .have a1':=eq_true a1
    by_cases a2:0 < d
    .have a2':=eq_true a2
     by_cases a3:w.req.minute+d<=w.lat
     .have a3':=eq_true a3;have e:yL w.req.minute w.ear w.lat w.step j=[w.req.minute - d,w.req.minute+d]:=by unfold yL;rw [hd,if_pos a1,if_pos ⟨a2,a3⟩];rfl
      rw [e] at hn;have qe:=aI qR (aI @a1' (aI @a2' (aI @a3' @decide_true)));refine gE2 ?_;exact ⟨j+1,by omega,by omega,by rw [hn,hm1];simp,by rw [hn];simp⟩
     .have a3':=eq_false a3;have e:yL w.req.minute w.ear w.lat w.step j=[w.req.minute - d]:=by unfold yL;rw [hd,if_pos a1,if_neg (λh=>a3 h.2)];rfl
      rw [e] at hn;have qe:=aI qR (aI @a1' (aI @a2' (aI @a3' yDF)));refine gE2 ?_;exact ⟨j+1,by omega,by omega,by rw [hn,hm1];simp,by rw [hn];simp⟩
    .have a2':=eq_false a2;have e:yL w.req.minute w.ear w.lat w.step j=[w.req.minute - d]:=by unfold yL;rw [hd,if_pos a1,if_neg (λh=>a2 h.1)];rfl
     rw [e] at hn;have qe:=aI qR (aI @a1' (aI @a2' yDF));refine gE2 ?_;exact ⟨j+1,by omega,by omega,by rw [hn,hm1];simp,by rw [hn];simp⟩
   .have a1':=eq_false a1;have a2:0 < d:=by omega
    have a2':=eq_true a2
    by_cases a3:w.req.minute+d<=w.lat
    .have a3':=eq_true a3;have e:yL w.req.minute w.ear w.lat w.step j=[w.req.minute+d]:=by unfold yL;rw [hd,if_neg a1,if_pos ⟨a2,a3⟩];rfl
     rw [e] at hn;have qe:=aI qR (aI @a1' (aI @a2' (aI @a3' yDF)));refine gE2 ?_;exact ⟨j+1,by omega,by omega,by rw [hn,hm1];simp,by rw [hn];simp⟩
    .have a3':=eq_false a3;have e:yL w.req.minute w.ear w.lat w.step j=[]:=by unfold yL;rw [hd,if_neg a1,if_neg (λh=>a3 h.2)];rfl
     rw [e,xar] at hn;have qe:=aI qR (aI @a1' (aI @a2' (aI @a3' yDF)));refine gE2 ?_;exact ⟨j+1,by omega,by omega,by rw [hn,hm1];simp,by rw [hn]⟩
  .have e:j=kS w.step:=by
    have:¬j < kS w.step:=λh=>by
     have:=hj2.1 h
     omega
    omega
   subst e;exact gD2
def yaB {r':List Int} (h:zn r=zn r'):zn (e::r)=zn (e::r'):=by
 by_cases k:e=0
 .rw [zro k,zro k,h]
 .rw [zlL k,zlL k]
def wisE_g (w:Wis):zfI w=zn [zbY w.req,zfA w.req.carrier,zn [zo6 w.req.partner,zo6 w.req.link,rng w.ear 0 1439,rng w.lat 0 1439],if w.req.minute < w.ear\/w.lat < w.req.minute then 11 else 0,rng w.step 1 120,if 96 < (zg2 w.req.minute w.ear w.lat w.step:Int) then 22 else 0,zn [rng w.least 0 1440,rng w.most 0 1440],if w.most < w.least then 11 else 0]:=
 yaB (yaB ((ybN [_,_,_,_] _).symm.trans (yaB (yaB (yaB (yaB (ybN [_,_] _).symm))))))
def yj (w:Wis):Pure prog 34 [w.pv] (.i .i64 (zfI w)):=by
 rw [wisE_g];refine pz func34 f34.eq_1 λhwf X hX=>?_
 have qe:=@qR;repeat' first|refine za (pure20 w.req) ?_|refine gG ?_|show AK _;intro J Z|refine gJ ?_|omega|exact aT
 (refine gC ?_ ?_<;>intro hc<;>try contradiction)
 .rw [zlL hc];have qe:=@qR;exact gD2
 have c1:zbY w.req=0:=hc;rw [zro c1];clear hc;have qe:=@qR;repeat' first|refine za (yC _) ?_|refine gG ?_|show AK _;intro J Z|refine gJ ?_|omega|exact aT
 (refine gC ?_ ?_<;>intro hc<;>try contradiction)
 .rw [zlL (by rw [yV hc];decide),yV hc]
  have qe:=@qR;exact gD2
 have c2:zcs w.req.carrier=true:=hc;rw [zro (yac c2)];clear hc;have qe:=@qR;repeat' first|refine za (ybc _) ?_|refine za (yS _ _ _) ?_|refine za (yal [_,_,_,_]) ?_|refine gG ?_|show AK _;intro J Z|refine gJ ?_|omega|exact aT
 (refine gC ?_ ?_<;>intro hc<;>try contradiction)
 .rw [zlL hc];have qe:=@qR;exact gD2
 have c3:zn [zo6 w.req.partner,zo6 w.req.link,rng w.ear 0 1439,rng w.lat 0 1439]=0:=hc;rw [zro c3];clear hc;obtain ⟨_,q⟩:=zi.1 c3;obtain ⟨_,q⟩:=zi.1 q;obtain ⟨p3,q⟩:=zi.1 q;obtain ⟨p4,_⟩:=zi.1 q;rw [zdR] at p3 p4;have qe:=@qR;repeat' first|refine gG ?_|show AK _;intro J Z|refine gJ ?_|omega|exact aT
 (refine gC ?_ ?_<;>intro hc<;>try contradiction)
 .rw [if_pos hc,zlL (e:=11) (by decide)]
  have qe:=@qR;exact gD2
 have c4:¬(w.req.minute < w.ear\/w.lat < w.req.minute):=by omega
 rw [if_neg c4,zro (e:=0) rfl];clear hc;have qe:=@qR;repeat' first|refine za (yS _ _ _) ?_|refine gG ?_|show AK _;intro J Z|refine gJ ?_|omega|exact aT
 (refine gC ?_ ?_<;>intro hc<;>try contradiction)
 .rw [zlL (show rng w.step 1 120≠0 from λk=>hc (zdR.1 k))]
  have qe:=@qR;exact gD2
 have c5:rng w.step 1 120=0:=zdR.2 hc;rw [zro c5];rw [zdR] at c5;clear hc;have h47:=yaj w c5 (by omega) (by omega) p3.1 p4.2
 have hlen:=yX w;rw [<-hlen];have qe:=@qR;repeat' first|refine za h47 ?_|refine gG ?_|show AK _;intro J Z|refine gJ ?_|omega|exact aT
 (refine gC ?_ ?_<;>intro hc<;>try contradiction)
 .rw [if_pos hc,zlL (e:=22) (by decide)]
  have qe:=@qR;exact gD2
 rw [if_neg (by omega),zro (e:=0) rfl]
 clear hc;have qe:=@qR;repeat' first|refine za (yS _ _ _) ?_|refine za (yal [_,_]) ?_|refine gG ?_|show AK _;intro J Z|refine gJ ?_|omega|exact aT
 (refine gC ?_ ?_<;>intro hc<;>try contradiction)
 .rw [zlL hc];have qe:=@qR;exact gD2
 rw [zro hc,zwE];clear hc;have qe:=@qR;repeat' first|refine gG ?_|show AK _;intro J Z|refine gJ ?_|omega|exact aT
 (refine gC ?_ ?_<;>intro hc<;>try contradiction)
 .rw [if_pos hc];have qe:=@qR;exact gD2
 .rw [if_neg (by omega)]
  have qe:=@qR;exact gD2
def yi (L:List Wis) (n:ByteArray):Pure prog 39 [.sl 18 (L.map Wis.pv),.s n] (.i .i64 (zeH n L)):=by
 refine pz func39 f39.eq_1 λhw X hX=>?_
 simp only [wfs,PV.wf,xaf,maxLen] at hw;refine gE2 ?_;refine zh (κ:=Nat) (λi=>⟨[(0,.p (.sl 18 (L.map Wis.pv))),(1,.p (.s n)),(5,.p (.i .i64 i))],[],[],false⟩) (λi=>i<=L.length/\∀ x ∈ (zkG L).take i,x≠n) (λi=>L.length - i) 0 ?_ ?_ ?_
 .exact sR
 .simp
 .intro i hi;refine gH (λhc=>?_) λhc=>?_
  .obtain ⟨x,hx⟩:=zj (i:=i) (l:=L) (by omega)
   have hm:(zkG L)[i]?=some x.req.name:=by unfold zkG;rw [xal,hx];rfl
   have qe:=@hx;refine gF2 (λhc=>?_) λhc=>?_
   .rw [zeH,zr8 hi.2 (by rw [hm,hc])];exact .refl _
   .refine ⟨i+1,⟨by omega,λy hy=>?_⟩,by omega,by simp⟩
    rw [zE hm] at hy
    rcases xaS.1 hy with h|h
    .exact hi.2 y h
    .simp at h;subst h;exact hc
  .refine gE2 ?_;have e:i=(zkG L).length:=by unfold zkG;rw [xaf];omega
   subst e;rw [zeH,zsa (λy hy=>hi.2 y (by rw [xah];exact hy))];exact .refl _
def ybg (L:List Wis) (hi:i < L.length):Pure prog 40 [.sl 18 (L.map Wis.pv),.i .i64 i] (.i .i64 (zau L i)):=by
 obtain ⟨w,hw⟩:=zj hi;have e:zau L i=if w.req.link=s0 then -1 else zeH w.req.link L:=by unfold zau zuE;rw [hw]
 rw [e];refine pz func40 f40.eq_1 λhwf X hX=>?_
 by_cases h:w.req.link=s0
 .have h':=eq_true h;rw [if_pos h];have qe:=aI qR (aI @hw @h');have jA:=yi L w.req.link;exact gD2
 .have h':=eq_false h;rw [if_neg h];have qe:=aI qR (aI @hw @h');have jA:=yi L w.req.link;exact gD2
def ybQ (l:List Wis):l.all ((λx=>x.cells.all PV.one) ∘ Wis.pv)=true:=by rw [xaO];intro x _;rfl
def allRs6 (l:List Res):l.all ((λx=>x.cells.all PV.one) ∘ Res.pv)=true:=by rw [xaO];intro x _;rfl
def yr (L:List Wis) (hn:L.length*192<=140737488355328):Pure prog 15 [.sl 18 (L.map Wis.pv)] (.sl 18 (L.map Wis.pv)):=by
 refine pz func15 f15.eq_1 λhw X hX=>?_
 have qe:=@qR;refine gE2 ?_;refine run_ownL 100 65 18 (κ:=Nat) (λk=>⟨[(0,.p (.sl 18 (L.map Wis.pv))),(3,.row 100 (L.take k).length),(4,.p (.i .i64 k))],[(100,.row 65 18 ((L.take k).map Wis.pv) false)],[],false⟩) (λk=>k<=L.length) (λk=>L.length - k) 0 ?_ ?_ ?_
 .refine ⟨gO ?_,gO ?_⟩<;>simp
 .simp
 .intro k hk;refine gH (λhc=>?_) λhc=>?_
  .obtain ⟨w,hx⟩:=zj (i:=k) (l:=L) (by omega)
   have hlt:=zfJ hx;have hkl:(L.take k).length=k:=by rw [xan];omega
   have qe:=aI qR (aI @hx @hkl);refine gE2 ?_;exact ⟨k+1,by omega,by omega,by rw [zE hx];simp [hkl],by rw [zE hx];simp⟩
  .have e:k=L.length:=by omega
   subst e;rw [xah];exact gD2
def ybi (L:List Lim) (hn:L.length*112<=140737488355328):Pure prog 17 [.sl 11 (L.map Lim.pv)] (.sl 11 (L.map Lim.pv)):=by
 refine pz func17 f17.eq_1 λhw X hX=>?_
 have qe:=@qR;refine gE2 ?_;refine run_ownL 100 131 11 (κ:=Nat) (λk=>⟨[(0,.p (.sl 11 (L.map Lim.pv))),(3,.row 100 (L.take k).length),(4,.p (.i .i64 k))],[(100,.row 131 11 ((L.take k).map Lim.pv) false)],[],false⟩) (λk=>k<=L.length) (λk=>L.length - k) 0 ?_ ?_ ?_
 .refine ⟨gO ?_,gO ?_⟩<;>simp
 .simp
 .intro k hk;refine gH (λhc=>?_) λhc=>?_
  .obtain ⟨w,hx⟩:=zj (i:=k) (l:=L) (by omega)
   have hlt:=zfJ hx;have hkl:(L.take k).length=k:=by rw [xan];omega
   have qe:=aI qR (aI @hx @hkl);refine gE2 ?_;exact ⟨k+1,by omega,by omega,by rw [zE hx];simp [hkl],by rw [zE hx];simp⟩
  .have e:k=L.length:=by omega
   subst e;rw [xah];exact gD2
def yam (L:List Wis) (hn:L.length*192<=140737488355328):Pure prog 18 [.sl 18 (L.map Wis.pv)] (.sl 18 (L.map Wis.pv)):=by
 refine pz func18 f18.eq_1 λhw X hX=>?_
 have qe:=aI qR (aI @ybQ @zwW);exact gD2
def ybh (L:List Res) (hn:L.length*32<=140737488355328):Pure prog 27 [.sl 3 (L.map Res.pv)] (.sl 3 (L.map Res.pv)):=by
 refine pz func27 f27.eq_1 λhw X hX=>?_
 have qe:=aI qR (aI @allRs6 @zwW);exact gD2
structure RsN (L:List Wis) (R:List Res):Prop where
 ok:RsOk L R
 nm:∀ i r,R[i]?=some r->r.name=nmW L i
def ybX {R:List Res} {o:Opt} (h1:j≠i) (h2:0<=x->j≠x.toNat):(zn9 R ((i:Int),x) o)[j]?=R[j]?:=by
 unfold zn9
 split
 .rw [xam,zgj _ h1]
 .rename_i hx;rw [zgj _ (h2 (by simp only at hx;omega)),xam,zgj _ h1]
def yA (ls:List Lim) (L:List Wis) (F:Unt->List Opt) (k:Nat):zh6 ls L F (k+1)=srvI ls L F (zh6 ls L F k) k:=by unfold zh6;rw [xbd,xaP];rfl
def y3 (h:zav L=0) (F:Unt->List Opt) {k:Nat} (hk:k < L.length) (hj:zY L j≠k):(zh6 ls L F (k+1))[j]?=(zh6 ls L F k)[j]?:=by
 rw [yA];unfold srvI
 split
 .rename_i hu
  split
  .refine ybX (λe=>hj (by rw [e];exact zj4 hu)) λh0 e=>?_
   obtain ⟨a,ha⟩:=zj hk
   rcases zcH h ha with h1|⟨c,b,hc⟩
   .omega
   .have hl:=hc.lab;rw [hl,xam] at e;exact hj (by rw [e];exact zqW hc (by omega))
  .rfl
 .rfl
theorem yh (h:zav L=0) (F:Unt->List Opt):∀ d,zY L j+1+d<=L.length->(zh6 ls L F (zY L j+1+d))[j]?=(zh6 ls L F (zY L j+1))[j]?
 | 0,_=>rfl
 | d+1,hd=>by
  rw [show zY L j+1+(d+1)=(zY L j+1+d)+1 by omega,y3 h F (by omega) (by omega)]
  exact yh h F d (by omega)
theorem yM (h:zav L=0) (F:Unt->List Opt):∀ k,k<=zY L j->k<=L.length->(zh6 ls L F k)[j]?=(zbU L)[j]?
 | 0,_,_=>rfl
 | k+1,hk,hn=>by
  rw [y3 h F (by omega) (by omega)]
  exact yM h F k (by omega) (by omega)
def yn (L:List Wis) (j:Nat):zY L j<=j:=by unfold zY;split<;>omega
def yN (ls:List Lim) (L:List Wis) (F:Unt->List Opt) (i:Nat):Option Opt:=(F ((i:Int),zau L i)).find? (fitX ls L (zbL L (zh6 ls L F i) λj=>decide (zY L j < i)) ((i:Int),zau L i))
def yaf (L:List Wis) (j i:Nat):Option Opt->Res
 | some o=>⟨nmW L j,if j=i then o.1 else o.2,true⟩
 | none=>⟨nmW L j,0,false⟩
def ybW (hj:j < L.length):(zbU L)[j]?=some ⟨nmW L j,0,false⟩:=by
 obtain ⟨w,hw⟩:=zj hj;unfold zbU nmW;rw [xal,hw];rfl
def yz (h:zav L=0) (F:Unt->List Opt) (hj:j < L.length):(zh6 ls L F L.length)[j]?=some (yaf L j (zY L j) (yN ls L F (zY L j))):=by
 have hle:=yn L j;have e1:=yh (ls:=ls) h F (j:=j) (L.length - (zY L j+1)) (by omega)
 rw [show zY L j+1+(L.length - (zY L j+1))=L.length by omega] at e1
 rw [e1,yA];have e0:=yM (ls:=ls) h F (j:=j) (zY L j) (xap _) (by omega)
 rw [ybW hj] at e0;have hi:zY L j < L.length:=by omega
 have hlead:zau L (zY L j) < 0\/((zY L j:Nat):Int) < zau L (zY L j):=by
  rcases zfZ h hj with ⟨a,b⟩|⟨i,a,b,hk,hij,hl,hlt⟩
  .rw [a];exact b
  .rw [hl];exact .inr hlt
 have hwho:=zfZ h hj;unfold srvI;rw [if_pos hlead];show (match yN ls L F (zY L j) with|some o=>zn9 (zh6 ls L F (zY L j)) (((zY L j:Nat):Int),zau L (zY L j)) o|none=>zh6 ls L F (zY L j))[j]?=_
 cases yN ls L F (zY L j) with
 | none=>simp only [];rw [e0];rfl
 | some o=>
  simp only [];unfold yaf;simp only []
  rcases hwho with ⟨a,b⟩|⟨i,a,b,hk,hij,hl,hlt⟩
  .rw [if_pos a.symm];generalize zY L j=i at *;subst a;unfold zn9
   split
   .rw [xam,zpF e0]
   .rename_i hx;simp only at hx;rw [xam,zgj _ (by simp only;omega),zpF e0]
  .rw [hl] at e0 ⊢;have hlb:=hk.lba;rw [if_neg (by omega)]
   unfold zn9;rw [hlb];rw [if_neg (by simp only;omega),xam,xam]
   rw [zpF (by rw [zgj _ (by omega)];exact e0)]
def yg (h:zav L=0) (F:Unt->List Opt) (hi:i<=L.length):(zbL L (zh6 ls L F L.length) λj=>decide (zY L j < i))=zbL L (zh6 ls L F i) λj=>decide (zY L j < i):=by
 unfold zbL;refine yt λj hj=>?_
 have hj:=xaG.1 hj
 by_cases hl:zY L j < i
 .have hle:=yn L j;have e1:=yh (ls:=ls) h F (j:=j) (L.length - (zY L j+1)) (by omega)
  have e2:=yh (ls:=ls) h F (j:=j) (i - (zY L j+1)) (by omega)
  rw [show zY L j+1+(L.length - (zY L j+1))=L.length by omega] at e1
  rw [show zY L j+1+(i - (zY L j+1))=i by omega] at e2
  unfold zeA;rw [e1,e2]
 .have hf:decide (zY L j < i)=false:=decide_eq_false hl;unfold zeA;simp only [hf,Bool.and_false,xaD,if_false];cases (zh6 ls L F L.length)[j]?<;>cases (zh6 ls L F i)[j]?<;>rfl
