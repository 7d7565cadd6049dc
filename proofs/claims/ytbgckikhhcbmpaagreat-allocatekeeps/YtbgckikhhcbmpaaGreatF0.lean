/- Contracts. No conditions. -/
import Derived.ProofKit
import Derived.OpenShut
import Derived.Carry
import Derived.OpenVars
import Derived.HandedShaped
import Derived.KernelRfl
import Derived.Laws.RangeAny
import Derived.Test.YtbgckikhhcbmpaaGreatK15
set_option linter.all false
set_option maxHeartbeats 8000000
set_option maxRecDepth 100000
namespace Go.Proofs.YtbgckikhhcbmpaaGreat
open Go.ChangeShapes Go.WideShapes Go.ChangeAt Go.RowKit Go.Proofs.Tryz
variable {k s:ByteArray} {G:Cfg} {a b e n:Int} {l x:Lim} {r:List Int} {ps:List MemPlace} {m:List Mov} {c i j:Nat} {t:TypeId} {v:Value}
def yDF:=aI @decide_true @decide_false
def yDT:=aI @decide_true (aI @decide_false @Bool.not_true)
def yd (P:Program) (t:TypeId):Bool:=match P.underlying t with|some (.struct _)|some (.array _ _)=>true|_=>false
def ye (P:Program) (F:TypeId->Option (List CP)):List (TypeId × Nat)->Nat->Option (List CP)
 | [],_=>some []
 | p::r,off=>if p.2=off then (F p.1).bind λc=>if P.cellsOf p.1=c.length then (ye P F r (off+c.length)).map (c++·) else none else none
def yM (P:Program):Nat->Nat->TypeId->Option (List CP)
 | 0,_,_=>none
 | n+1,sl,t=>match P.underlying t with
  | some .bool=>some [.b]
  | some (.int k)=>some [.i k]
  | some .string=>some [.s]
  | some (.slice e)=>match sl with
   | 0=>none
   | sl+1=>(yM P n sl e).bind λc=>if P.cellsOf e=c.length/\(yd P e=true\/c.length=1)/\0 < c.length then some [.sl (yd P e) c] else none
  | some (.struct fs)=>(ye P (yM P n sl) (fs.toList.map λf=>(f.type,f.offset)) 0).bind λc=>if c.length=P.cellsOf t then some c else none
  | some (.array m e)=>(ye P (yM P n sl) ((List.range m).map λi=>(e,i*P.cellsOf e)) 0).bind λc=>if c.length=P.cellsOf t then some c else none
  | _=>none
def yal (ag:Bool) (l:List PV):PV:=if ag then .agg l else l.headD .any
def Fit:Nat->CP->PV->Prop
 | _,.b,p=>∃ x,p=.b x
 | _,.i k,p=>∃ n,p=.i k n
 | _,.s,p=>∃ x,p=.s x
 | 0,.sl _ _,_=>False
 | n+1,.sl ag cs,p=>∃ xs,p=.sl cs.length xs/\∀ x ∈ xs,∃ l,x=yal ag l/\FitAll (Fit n) cs l
theorem yj {α β:Type} {f:α->Option β}:∀ {l:List α} {r:List β},l.mapM f=some r->∀ x ∈ l,∃ y,f x=some y
 | [],_,_,x,hx=>by cases hx
 | a::l,r,h,x,hx=>by
  rw [xch] at h;cases ha:f a with
  | none=>rw [ha] at h;cases h
  | some y=>
   rw [ha] at h;simp only [xcr,xbN] at h;cases hl:l.mapM f with
   | none=>rw [hl] at h;cases h
   | some ys=>
    rcases xaI.1 hx with rfl|hx
    .exact ⟨y,ha⟩
    .exact yj hl x hx
theorem ya {α β:Type} {f:α->Option β}:∀ {l:List α} {r:List β},l.mapM f=some r->r.length=l.length
 | [],r,h=>by simp at h;subst h;rfl
 | a::l,r,h=>by
  rw [xch] at h;cases ha:f a with
  | none=>rw [ha] at h;cases h
  | some y=>
   rw [ha] at h;simp only [xcr,xbN] at h;cases hl:l.mapM f with
   | none=>rw [hl] at h;cases h
   | some ys=>
    rw [hl] at h;simp only [xbN,Option.pure_def,xaK] at h;subst h;simp [ya hl]
theorem y4 {α β:Type} {f:α->Option β}:∀ {l:List α} {r:List β},l.mapM f=some r->∀ {i:Nat} {x:α},l[i]?=some x->f x=r[i]?
 | [],r,_,i,x,hx=>by simp at hx
 | a::l,r,h,i,x,hx=>by
  rw [xch] at h;cases ha:f a with
  | none=>rw [ha] at h;cases h
  | some y=>
   rw [ha] at h;simp only [xcr,xbN] at h;cases hl:l.mapM f with
   | none=>rw [hl] at h;cases h
   | some ys=>
    rw [hl] at h;simp only [xbN,Option.pure_def,xaK] at h;subst h;cases i with
    | zero=>simp at hx;subst hx;simpa using ha
    | succ i=>simpa using y4 hl (i:=i) (by simpa using hx)
def ycB {k:IntKind} (h:(Lit.int k n).wf=true):k.wrap n=n:=by
 cases k<;>simp [Lit.wf,IntKind.wrap,IntKind.min,IntKind.max,IntKind.signed,IntKind.bits] at *<;>omega
section
variable {H:Type} {enc:TypeId × Value->H} {P:Program} {w:World} {base:Nat} {sp:Nat->Bool} {held:Bool}
def ybF {a:Addr} (h:w.cell? a=some v):a.block < w.heap.size/\a.spot=none:=by
 unfold World.cell? at h
 split at h
 .rename_i hh
  split at h
  .cases h
  .rename_i hs;exact ⟨(xaR.1 hh).1,by simpa using hs⟩
 .cases h
theorem ym {fuel n:Nat} {sl:Nat} {B:Nat->Prop} {cs:List Value}
  (ih:∀ {t:TypeId} {ds:List Value} {x:DataW H × List MemPlace} {c:List CP},(∀ v ∈ ds,v ∈ cs)->DataW.trod enc P w base sp held fuel t ds=some x->yM P n sl t=some c->∃ ps,Reps w B ds ps/\FitAll (Fit n) c ps) :
  ∀ (fl:List (TypeId × Nat)) (off:Nat) (c:List CP),(∀ p ∈ fl,∃ x,DataW.trod enc P w base sp held fuel p.1 ((cs.drop p.2).take (P.cellsOf p.1))=some x)->ye P (yM P n sl) fl off=some c->off+c.length<=cs.length ->
   ∃ ps,Reps w B ((cs.drop off).take c.length) ps/\FitAll (Fit n) c ps
 | [],off,c,_,h,_=>by
  simp only [ye,xaK] at h;subst h;exact ⟨[],by simpa using Reps.nil,trivial⟩
 | p::r,off,c,hx,h,hl=>by
  simp only [ye] at h
  split at h
  .rename_i ho;obtain ⟨c1,h1,h⟩:=xao.1 h
   split at h
   .rename_i hc;obtain ⟨c2,h2,rfl⟩:=xab.1 h;obtain ⟨x,hx1⟩:=hx p (by simp)
    rw [ho,hc] at hx1;obtain ⟨p1,r1,f1⟩:=ih (λv hv=>List.mem_of_mem_drop (xbu hv)) hx1 h1
    obtain ⟨p2,r2,f2⟩:=ym ih r (off+c1.length) c2 (λq hq=>hx q (by simp [hq])) h2 (by simp at hl;omega)
    refine ⟨p1++p2,?_,f1.app f2⟩;have e:(cs.drop off).take (c1++c2).length=(cs.drop off).take c1.length++(cs.drop (off+c1.length)).take c2.length:=by
     rw [xad,List.take_add,xbP]
    rw [e];exact r1.append r2
   .cases h
  .cases h
theorem yq {B:Nat->Prop} (hB:∀ b,b < w.heap.size->B b):∀ (n fuel:Nat) (sl:Nat) {t:TypeId} {cs:List Value} {x:DataW H × List MemPlace} {c:List CP},
  DataW.trod enc P w base sp held fuel t cs=some x->yM P n sl t=some c->∃ ps,Reps w B cs ps/\FitAll (Fit n) c ps
 | 0,_,_,_,_,_,_,_,h=>by simp [yM] at h
 | _+1,0,_,_,_,_,_,h,_=>by simp [DataW.trod] at h
 | n+1,fuel+1,sl,t,cs,x,c,h,hc=>by
  have mono:∀ {c:List CP} {ps:List PV},FitAll (Fit n) c ps->FitAll (Fit (n+1)) c ps:=by
   have one:∀ (m:Nat) (c:CP) (p:PV),Fit m c p->Fit (m+1) c p:=by
    intro m
    induction m with
    | zero=>intro c p h;cases c<;>first|exact h|exact h.elim
    | succ m ihm=>
     intro c p h
     cases c with
     | b=>exact h
     | i k=>exact h
     | s=>exact h
     | sl ag cs=>
      obtain ⟨xs,h1,h2⟩:=h
      refine ⟨xs,h1,λx hx=>?_⟩
      obtain ⟨l,h3,h4⟩:=h2 x hx
      refine ⟨l,h3,?_⟩
      have:∀ (a:List CP) (b:List PV),FitAll (Fit m) a b->FitAll (Fit (m+1)) a b:=by
       intro a
       induction a with
       | nil=>intro b hb;cases b<;>exact hb
       | cons y r ihr=>
        intro b hb
        cases b with
        | nil=>exact hb
        | cons z q=>exact ⟨ihm _ _ hb.1,ihr _ hb.2⟩
      exact this _ _ h4
   intro c
   induction c with
   | nil=>intro ps h;cases ps<;>exact h
   | cons y r ihr=>
    intro ps h
    cases ps with
    | nil=>exact h
    | cons z q=>exact ⟨one _ _ _ h.1,ihr h.2⟩
  unfold DataW.trod at h
  unfold yM at hc
  cases hu:P.underlying t with
  | none=>rw [hu] at hc;cases hc
  | some d=>
   rw [hu] at h hc
   match d,h,hc with
   | .bool,h,hc=>
    simp only [xaK] at hc;subst hc
    match cs,h with
    | [.bool b],h=>exact ⟨[.b b],Reps.cons (.b b) Reps.nil,⟨b,rfl⟩,trivial⟩
   | .int k,h,hc=>
    simp only [xaK] at hc;subst hc
    match cs,h with
    | [.int k' m],h=>
     simp only at h
     split at h
     .rename_i hk
      obtain ⟨rfl,hw⟩:=hk
      exact ⟨[.i k' m],Reps.cons (.i (ycB hw)) Reps.nil,⟨m,rfl⟩,trivial⟩
     .cases h
   | .string,h,hc=>
    simp only [xaK] at hc;subst hc
    match cs,h with
    | [.string z],h=>
     simp only at h
     split at h
     .rename_i hk
      exact ⟨[.s z],Reps.cons (.s hk) Reps.nil,⟨z,rfl⟩,trivial⟩
     .cases h
   | .slice e,h,hc=>
    simp only at hc
    cases sl with
    | zero=>cases hc
    | succ sl=>
     obtain ⟨ce,h1,hc⟩:=xao.1 hc
     split at hc
     .rename_i hce
      simp only [xaK] at hc;subst hc
      match cs,h with
      | [.slice none 0 0],h=>exact ⟨[.sl ce.length []],Reps.cons .sl0 Reps.nil,⟨[],rfl,λx hx=>by cases hx⟩,trivial⟩
      | [.slice (some a) len cap],h=>
       simp only at h
       split at h
       .rename_i hb
        obtain ⟨els,h2,_⟩:=xao.1 h
        by_cases hl0:len=0
        .subst hl0
         exact ⟨[.sl ce.length []],Reps.cons (.sle hb.2.2) Reps.nil,⟨[],rfl,λx hx=>by cases hx⟩,trivial⟩
        have hBa:B a.block/\a.spot=none:=by
         obtain ⟨y,hy⟩:=yj h2 0 (xaG.2 (by omega))
         obtain ⟨us,h3,h4⟩:=xao.1 hy
         unfold World.cells? at h3
         split at h3
         .have h5:=y4 h3 (i:=0) (x:=0) (List.getElem?_range (by rw [hce.1];exact hce.2.2))
          have h6:us.length=P.cellsOf e:=by simpa using ya h3
          have h7:0 < us.length:=by rw [h6,hce.1];exact hce.2.2
          rw [xac h7] at h5
          have e0:∀ z:Addr,z.add 0=z:=λz=>by unfold Addr.add;simp
          rw [Nat.zero_mul,e0,e0] at h5
          obtain ⟨k1,k2⟩:=ybF h5
          exact ⟨hB _ k1,k2⟩
         .cases h3
        have key:∀ i,i < len->∃ (us:List Value) (ps:List PV),(∀ j v,us[j]?=some v->w.cell? (a.add (i*ce.length+j))=some v)/\Reps w B us ps/\FitAll (Fit n) ce ps:=λi hi=>by
         obtain ⟨y,hy⟩:=yj h2 i (xaG.2 hi)
         obtain ⟨us,h3,h4⟩:=xao.1 hy
         obtain ⟨ps,h5,h6⟩:=yq (B:=B) hB n fuel sl h4 h1
         refine ⟨us,ps,λj v hv=>?_,h5,h6⟩
         unfold World.cells? at h3
         split at h3
         .have hlen:j < P.cellsOf e:=by
           have e1:us.length=P.cellsOf e:=by
            have:=ya h3
            simpa using this
           rw [<-e1];exact (xaa.1 hv).1
          have:=y4 h3 (List.getElem?_range hlen)
          rw [hv] at this
          rw [hce.1] at this
          rw [<-Addr.add_add];exact this
         .cases h3
        classical
        let U:Nat->List Value:=λi=>if hi:i < len then (key i hi).choose else []
        let PS:Nat->List PV:=λi=>if hi:i < len then (key i hi).choose_spec.choose else []
        have hU:∀ i,i < len->(∀ j v,(U i)[j]?=some v->w.cell? (a.add (i*ce.length+j))=some v)/\Reps w B (U i) (PS i)/\FitAll (Fit n) ce (PS i):=λi hi=>by
         have:=(key i hi).choose_spec.choose_spec
         simp only [U,PS,dif_pos hi];exact this
        have hcells:∀ i,i < len->(yal (yd P e) (PS i)).cells=PS i:=λi hi=>by
         unfold yal
         split
         .rfl
         .rename_i hag
          have hl:=(hU i hi).2.2
          have h1l:ce.length=1:=hce.2.1.resolve_left hag
          obtain ⟨q,rfl⟩:∃ q,ce=[q]:=List.length_eq_one_iff.1 h1l
          match hPS:PS i,hl with
          | [z],hl=>
           have hz:=hl.1
           simp only [List.headD_cons]
           cases q with
           | b=>cases n<;>(obtain ⟨_,rfl⟩:=hz;rfl)
           | i k=>cases n<;>(obtain ⟨_,rfl⟩:=hz;rfl)
           | s=>cases n<;>(obtain ⟨_,rfl⟩:=hz;rfl)
           | sl ag cs=>
            cases n with
            | zero=>exact hz.elim
            | succ n=>obtain ⟨_,rfl,_⟩:=hz;rfl
        refine ⟨[.sl ce.length ((List.range len).map λi=>yal (yd P e) (PS i))],Reps.cons (.sl (λi j=>(U i)[j]?.getD undef) hBa.1 hBa.2 (by simp) hb.2.1 hb.2.2 ?_ ?_ ?_) Reps.nil,⟨_,rfl,λx hx=>?_⟩,trivial⟩
        .intro i x hx
         simp only [xal,xab] at hx
         obtain ⟨i',hi',rfl⟩:=hx
         obtain ⟨hi,rfl⟩:=xaa.1 hi'
         simp only [xaU,xct] at hi ⊢
         rw [hcells i hi,(hU i hi).2.2.len]
        .intro i x j p hx hp
         simp only [xal,xab] at hx
         obtain ⟨i',hi',rfl⟩:=hx
         obtain ⟨hi,rfl⟩:=xaa.1 hi'
         simp only [xaU,xct] at hi hp ⊢
         rw [hcells i hi] at hp
         obtain ⟨v,hv,_⟩:=(hU i hi).2.1.get hp
         rw [hv];exact (hU i hi).1 j v hv
        .intro i x j p hx hp
         simp only [xal,xab] at hx
         obtain ⟨i',hi',rfl⟩:=hx
         obtain ⟨hi,rfl⟩:=xaa.1 hi'
         simp only [xaU,xct] at hi hp ⊢
         rw [hcells i hi] at hp
         obtain ⟨v,hv,hr⟩:=(hU i hi).2.1.get hp
         rw [hv];exact hr
        .obtain ⟨i,hi,rfl⟩:=xaN.1 hx
         exact ⟨_,rfl,(hU i (xaG.1 hi)).2.2⟩
       .cases h
     .cases hc
   | .struct fs,h,hc=>
    simp only at h hc
    obtain ⟨c',h1,hc⟩:=xao.1 hc
    split at hc
    .rename_i hl
     simp only [xaK] at hc;subst hc
     split at h
     .rename_i hcs
      obtain ⟨xs,h2,_⟩:=xab.1 h
      obtain ⟨ps,h3,h4⟩:=ym (B:=B) (cs:=cs) (n:=n) (sl:=sl) (λhsub hx hc=>yq hB n fuel sl hx hc) (fs.toList.map λf=>(f.type,f.offset)) 0 c' (λp hp=>by
       obtain ⟨f,hf,rfl⟩:=xaN.1 hp
       exact yj h2 f hf) h1 (by omega)
      rw [xbw,hl,<-hcs,xah] at h3
      exact ⟨ps,h3,mono h4⟩
     .cases h
    .cases hc
   | .array m e,h,hc=>
    simp only at h hc
    obtain ⟨c',h1,hc⟩:=xao.1 hc
    split at hc
    .rename_i hl
     simp only [xaK] at hc;subst hc
     split at h
     .rename_i hcs
      obtain ⟨xs,h2,_⟩:=xab.1 h
      obtain ⟨ps,h3,h4⟩:=ym (B:=B) (cs:=cs) (n:=n) (sl:=sl) (λhsub hx hc=>yq hB n fuel sl hx hc) ((List.range m).map λi=>(e,i*P.cellsOf e)) 0 c' (λp hp=>by
       obtain ⟨i,hi,rfl⟩:=xaN.1 hp
       exact yj h2 i hi) h1 (by omega)
      rw [xbw,hl,<-hcs,xah] at h3
      exact ⟨ps,h3,mono h4⟩
     .cases h
    .cases hc
end
open Go.ChangeShapes Go.WideShapes Go.ChangeAt Go.RowKit Go.Proofs.Tryz
def ycX (P:Program) (n:Nat) (t:TypeId):Option (Bool × List CP):=(yM P n 2 t).bind λc=>if yd P t=true\/c.length=1 then some (yd P t,c) else none
def yT (P:Program) (n:Nat) (t:TypeId) (p:PV):Prop:=
 (∃ ag c l,ycX P n t=some (ag,c)/\p=yal ag l/\FitAll (Fit n) c l)/\(∀ e sz xs,P.underlying t=some (.slice e)->p=.sl sz xs->xs.length*P.bytesOf e<=reachBytes)/\(∀ fs f e l sz xs,P.underlying t=some (.struct fs)->f ∈ fs.toList->P.underlying f.type=some (.slice e)->p=.agg l->l[f.offset]?=some (.sl sz xs)->xs.length*P.bytesOf e<=reachBytes)
def yaB (P:Program) (n:Nat):List TypeId->List PV->Prop
 | [],[]=>True
 | t::ts,p::ps=>yT P n t p/\yaB P n ts ps
 | _,_=>False
section
variable {H:Type} {enc:TypeId × Value->H} {P:Program} {W:World}
theorem ycn {n:Nat}:∀ {ts:List TypeId} {ds:List (DataW H)} {j:Nat} {t:TypeId} {d:DataW H},ts[j]?=some t->ds[j]?=some d->n ∈ d.weights P t->n ∈ DataW.weightsEach P ts ds
 | [],_,j,_,_,h,_,_=>by simp at h
 | _::_,[],j,_,_,_,h,_=>by simp at h
 | t::ts,d::ds,0,_,_,h,k,hn=>by
  simp at h k;subst h;subst k;simp only [DataW.weightsEach,xaS];exact .inl hn
 | t::ts,d::ds,j+1,_,_,h,k,hn=>by
  simp only [DataW.weightsEach,xaS];exact .inr (ycn (j:=j) (by simpa using h) (by simpa using k) hn)
def fld_b {fuel:Nat} {cs:List Value} {d:DataW H} (h:DataW.trod enc P W 0 (λ_=>true) true fuel t cs=some (d,ps)) (hz:(d.weights P t).all (·<=reachBytes)=true) {fs} (hu:P.underlying t=some (.struct fs)) {f} (hf:f ∈ fs.toList) {e:TypeId} (he:P.underlying f.type=some (.slice e)) {a:Option Addr} {len cap:Nat} (hv:cs[f.offset]?=some (.slice a len cap)):len*P.bytesOf e<=reachBytes:=by
 cases fuel with
 | zero=>simp [DataW.trod] at h
 | succ fuel=>
  unfold DataW.trod at h;rw [hu] at h;simp only at h
  split at h
  .obtain ⟨xs,e1,h⟩:=xab.1 h;injection h with hd _;subst hd;obtain ⟨j,hj⟩:=xa9 hf;have hx:=y4 e1 hj;have hjl:j < xs.length:=by rw [ya e1];exact (xaa.1 hj).1
   obtain ⟨y,hy⟩:∃ y,xs[j]?=some y:=⟨_,xac hjl⟩;rw [hy] at hx;have hm:∀ n,n ∈ y.1.weights P f.type->n<=reachBytes:=λn hn=>by
    have:=xaO.1 hz n (by
     simp only [DataW.weights,hu];exact ycn (j:=j) (t:=f.type) (d:=y.1) (by rw [xal,hj];rfl) (by rw [xal,hy];rfl) hn)
    simpa using this
   have hc:∀ v,((cs.drop f.offset).take (P.cellsOf f.type))=[v]->v=.slice a len cap:=λv hv1=>by
    have h0:((cs.drop f.offset).take (P.cellsOf f.type))[0]?=some v:=by rw [hv1];rfl
    rw [xaQ] at h0
    split at h0
    .rw [xaY,xbt,hv] at h0;injection h0 with h0;exact h0.symm
    .cases h0
   generalize (cs.drop f.offset).take (P.cellsOf f.type)=c' at hx hc;cases fuel with
   | zero=>simp [DataW.trod] at hx
   | succ fuel=>
    unfold DataW.trod at hx;rw [he] at hx
    match c',hx,hc with
    | [.slice none 0 0],hx,hc=>
     have:=hc _ rfl;injection this with _ h2 _;rw [<-h2];simp
    | [.slice (some b) m k],hx,hc=>
     have:=hc _ rfl;injection this with _ h2 _;simp only at hx
     split at hx
     .obtain ⟨els,g1,hx⟩:=xao.1 hx;obtain ⟨rest,g2,hx⟩:=xab.1 hx;have hle:els.length=m:=by simpa using ya g1
      have:=hm ((els.length+rest.length)*P.bytesOf e) (by rw [<-hx];simp [DataW.weights,he])
      rw [<-h2,<-hle];exact xa0 (xba _ (Nat.le_add_right _ _)) this
     .cases hx
  .cases h
def ycW {base n:Nat} {d:DataW H} (hval:Value.okWide P W .any base t v) (h:DataW.Trod enc P W 0 (λ_=>true) true t v d ps) {q:Bool × List CP} (hq:ycX P n t=some q)
  (hz:(d.weights P t).all (·<=reachBytes)=true):∃ p,Rep W (λb=>b < W.heap.size) v p/\yT P n t p:=by
 obtain ⟨fuel,h⟩:=h
 have hq0:=hq
 unfold ycX at hq
 obtain ⟨c,hc,hq⟩:=xao.1 hq
 split at hq
 .rename_i hl
  simp only [xaK] at hq
  subst hq
  unfold yd at hl hq0
  have key:∀ {cs:List Value},DataW.trod enc P W 0 (λ_=>true) true fuel t cs=some (d,ps)->(∀ v ∈ cs,∃ u,Cell.okWide P W .any base u v)->∃ l,Reps W (λb=>b < W.heap.size) cs l/\FitAll (Fit n) c l:=λht hc1=>
   yq (λ_ h=>h) n fuel 2 ht hc
  have other:yd P t=false->(∃ u,Cell.okWide P W .any base u v)->v.cells.toList=[v]->∃ p,Rep W (λb=>b < W.heap.size) v p/\yT P n t p:=λhag hok hcv=>by
   rw [hcv] at h
   obtain ⟨l,h1,h2⟩:=key h (λv' hv=>by simp at hv;subst hv;exact hok)
   have hlen:=h1.1
   match l,hlen with
   | [p],_=>
    have hr:=h1.2 0 v p rfl rfl
    refine ⟨p,hr,⟨false,c,[p],?_,rfl,h2⟩,λe sz xs hu he=>?_,λfs f e l sz xs hu=>?_⟩
    .rw [hq0]
     have:yd P t=false:=hag
     unfold yd at this
     rw [this]
    .subst he
     cases hr with
     | sl0=>simp
     | sle=>simp
     | sl u h3 h4 h5 h6 h7 h8 h9 h10=>
      rename_i a len cap hh
      cases fuel with
      | zero=>simp [DataW.trod] at h
      | succ fuel=>
       unfold DataW.trod at h
       rw [hu] at h
       simp only at h
       split at h
       .obtain ⟨els,e1,h⟩:=xao.1 h
        obtain ⟨rest,e2,h⟩:=xab.1 h
        injection h with hd _
        subst hd
        have:=xaO.1 hz ((els.length+rest.length)*P.bytesOf e) (by simp [DataW.weights,hu])
        simp only [decide_eq_true_eq] at this
        have hle:els.length=len:=by simpa using ya e1
        rw [h5,<-hle]
        exact xa0 (xba _ (Nat.le_add_right _ _)) this
       .cases h
    .exfalso
     unfold yd at hag
     rw [hu] at hag
     cases hag
  unfold Value.okWide at hval
  cases hu:P.underlying t with
  | none=>unfold yM at hc;cases n<;>simp [hu] at hc
  | some desc=>
   have ag:(∃ fs,desc=.struct fs)\/(∃ k e,desc=.array k e)\/(yd P t=false/\Cell.okWide P W .any base t v):=by
    unfold yd
    rw [hu] at hval ⊢
    cases desc<;>first|exact .inl ⟨_,rfl⟩|exact .inr (.inl ⟨_,_,rfl⟩)|exact .inr (.inr ⟨rfl,hval⟩)
   have agg:yd P t=true->(∃ cs,v=.agg cs/\cs.size=P.cellsOf t/\Row.okWide P W .any base t cs)->∃ p,Rep W (λb=>b < W.heap.size) v p/\yT P n t p:=λhag hcs=>by
    obtain ⟨cs,rfl,_,hrow⟩:=hcs
    obtain ⟨l,h1,h2⟩:=key (cs:=cs.toList) h (λv' hv=>by
     obtain ⟨ts,_,_,hcell⟩:=hrow
     obtain ⟨i,hi⟩:=xa9 hv
     obtain ⟨u,_,hk⟩:=hcell i v' (by simpa using hi)
     exact ⟨u,hk⟩)
    refine ⟨.agg l,.agg (by simpa using h1.1) (λj v' p hv hp=>h1.2 j v' p (by simpa using hv) hp),⟨true,c,l,?_,rfl,h2⟩,λe sz xs hu' he=>(by cases he),λfs f e l' sz xs hu' hf he hl' hx=>?_⟩
    rotate_left
    .injection hl' with hl'
     subst hl'
     obtain ⟨v,hv⟩:∃ v,cs.toList[f.offset]?=some v:=⟨_,xac (by rw [h1.1];exact (xaa.1 hx).1)⟩
     have hr:=h1.2 _ _ _ hv hx
     cases hr with
     | sl0=>simp
     | sle=>simp
     | sl u h3 h4 h5 h6 h7 h8 h9 h10=>rw [h5];exact fld_b h hz hu' hf he hv
    rw [hq0]
    have:yd P t=true:=hag
    unfold yd at this
    rw [this]
   rcases ag with ⟨fs,rfl⟩|⟨k,e,rfl⟩|⟨hag,hok⟩
   .rw [hu] at hval
    exact agg (by unfold yd;rw [hu]) hval
   .rw [hu] at hval
    exact agg (by unfold yd;rw [hu]) hval
   .refine other hag ⟨t,hok⟩ ?_
    have:∀ cs,v≠.agg cs:=λcs e=>by
     subst e
     unfold Cell.okWide at hok
     have h2:Cell.ok P W .any base t (.agg cs):=by
      split at hok
      all_goals first|exact hok|(rename_i hv;cases hv)
     unfold Cell.ok at h2
     split at h2
     all_goals first|exact h2.elim|skip
     all_goals (rename_i hv;first|cases hv|skip)
    cases v<;>first|rfl|exact absurd rfl (this _)
 .cases hq
theorem yaJ {base n:Nat}:∀ {ts:List TypeId} {vs:List Value} {ds:List (DataW H)} {ps:List MemPlace},DataW.TrodAll enc P W 0 (λ_=>true) true ts vs ds ps->(∀ (j:Nat) t v,ts[j]?=some t->vs[j]?=some v->Value.okWide P W .any base t v) ->
  (∀ t ∈ ts,∃ q,ycX P n t=some q)->(DataW.weightsEach P ts ds).all (·<=reachBytes)=true->∃ l,Reps W (λb=>b < W.heap.size) vs l/\yaB P n ts l
 | [],vs,ds,ps,h,_,_,_=>by
  obtain ⟨rfl,rfl,rfl⟩:=trodAll_nil h;exact ⟨[],Reps.nil,trivial⟩
 | t::ts,vs,ds,ps,h,hval,hq,hz=>by
  obtain ⟨v,vs1,d,ds1,a,b,rfl,rfl,rfl,h1,h2⟩:=trodAll_cons h;obtain ⟨q,hq1⟩:=hq t (by simp)
  simp only [DataW.weightsEach,List.all_append,xau] at hz;obtain ⟨p,r1,f1⟩:=ycW (n:=n) (hval 0 t v rfl rfl) h1 hq1 hz.1;obtain ⟨l,r2,f2⟩:=yaJ h2 (λj t v ht hv=>hval (j+1) t v (by simpa using ht) (by simpa using hv)) (λt ht=>hq t (by simp [ht])) hz.2
  exact ⟨p::l,Reps.cons r1 r2,f1,f2⟩
theorem yh (hl:laidOutB P=true) {W':World} {sp:Nat->Bool}:∀ {ts:List TypeId} {vs:List Value} {ds:List (DataW H)} {ps:List MemPlace},ts.all (λt=>P.readableRec t && decide (t < P.types.size))=true->DataW.TrodAll enc P W 0 (λ_=>true) true ts vs ds ps ->
  (∀ x ∈ ps,W.sameAt W' x)->(∀ x ∈ ps,sp x.block=true)->DataW.TrodAll enc P W' 0 sp true ts vs ds ps
 | [],vs,ds,ps,_,h,_,_=>by
  obtain ⟨rfl,rfl,rfl⟩:=trodAll_nil h;exact h
 | t::ts,vs,ds,ps,hr,h,hs,hp=>by
  obtain ⟨v,vs1,d,ds1,a,b,rfl,rfl,rfl,h1,h2⟩:=trodAll_cons h;simp only [List.all_cons,xau,decide_eq_true_eq] at hr;exact ⟨a,b,WideElems.Trod_stays hl hr.1.1 hr.1.2 h1 (λx hx=>hs x (by simp [hx])) (λx hx=>hp x (by simp [hx])),yh hl hr.2 h2 (λx hx=>hs x (by simp [hx])) (λx hx=>hp x (by simp [hx])),rfl⟩
def ya1 {W':World} (hb:Below W.heap.size W W') (may:MemPlace->Prop):W.keptBut W' may:=by
 refine ⟨hb.os,hb.output,λi hi=>?_⟩
 rw [hb.block i hi];cases hh:W.heap[i]? with
 | none=>rfl
 | some o=>cases o<;>first|exact ⟨rfl,rfl,rfl,λ_ _=>rfl⟩|exact .inr ⟨rfl,rfl⟩|rfl
def yaX {f:Func} {s:ChangeSpec} {apart fresh handsOn again:Bool} {W':World} {args:Array Value} {ds gs:List (DataW H)} {before:List MemPlace} {tb:TypeId} (hl:laidOutB P=true)
  (hrd:f.params.toList.all (λt=>P.readableRec t && decide (t < P.types.size))=true) (hW:DataW.Whole enc P f.params.toList s.vars apart W args.toList ds gs before) (hv:s.vars=[])
  (hs:s.fn H ds={ results:=[.lit (.bool true)],args:=ds }) (hr:f.resultTypes=#[tb]) (htb:P.underlying tb=some .bool) (hb:Below W.heap.size W W'):s.post enc P f apart fresh handsOn again W args (.bool true) W':=by
 have hlt:∀ p ∈ before,p.block < W.heap.size:=hW.lt;have hW0:=hW;obtain ⟨p,q,hA,hV,rfl,hz,hn⟩:=hW;rw [hv] at hV;obtain ⟨rfl,rfl⟩:=trodVars_none hV;simp only [xar] at hz hn hlt hW0;have hres:∀ (b:Nat) (sp:Nat->Bool) (hd:Bool),DataW.TrodAll enc P W' b sp hd f.resultTypes.toList ((Value.bool true).resultList f.resultTypes.size) [.lit (.bool true)] []:=λb sp hd=>by
  rw [hr];exact trodAll_cons_mk (shut_bool htb _) trodAll_mk0
 have hargs:∀ sp:Nat->Bool,(∀ x ∈ p,sp x.block=true)->DataW.TrodAll enc P W' 0 sp true f.params.toList args.toList ds p:=λsp hsp=>yh hl hrd hA (λx hx=>hb.same (hlt x hx)) hsp
 have hvars:∀ sp:Nat->Bool,DataW.TrodVars enc P W' sp s.vars ([]:List (DataW H)) []:=λsp=>by rw [hv];rfl
 refine ⟨ds,[],p,[],p,[],hW0,by rw [xar,hs];exact hres _ _ _,by rw [xar,hs];exact hargs _ (λx hx=>by simpa using hlt x hx),by rw [xar,hs];exact hvars _,World.keptBut_mono (λx hx=>⟨hx,.inr (.inl hx)⟩) (ya1 hb (· ∈ p)),λ_=>?_⟩
 refine ⟨λj t r h1 h2=>?_,[.lit (.bool true)]++ds,[],p,⟨[]++p,[],trodAll_append (hargs _ (λ_ _=>rfl)) (hres _ _ _),hvars _,by simp,?_,?_⟩,λx hx _=>hx⟩
 .rw [hr] at h1 h2;cases j with
  | zero=>
   simp [Value.resultList] at h1 h2;subst h1;subst h2;exact okWide_bool_mk htb _
  | succ j=>simp at h1
 .intro b off hp;have:=hz b off hp;unfold World.frozen? at this ⊢;have e:W'.heap[b]?=W.heap[b]?:=hb.block b (hlt _ hp);simp only at this ⊢;rw [e];exact this
 .intro ha;exact hn ha
end
def yai {C:Checked} {f:FuncId} {fn:Func} {s:ChangeSpec} {n:Nat} {tb:TypeId} (hl:laidOutB C.prog=true) (hrd:fn.params.toList.all (λt=>C.prog.readableRec t && decide (t < C.prog.types.size))=true)
  (hv:s.vars=[]) (hs:∀ (H:Type) (ds:List (DataW H)),ds.length=fn.params.size->s.fn H ds={ results:=[.lit (.bool true)],args:=ds }) (hr:fn.resultTypes=#[tb]) (htb:C.prog.underlying tb=some .bool)
  (hq:fn.params.toList.all (λt=>(ycX C.prog n t).isSome)=true) (hp:∀ ps,yaB C.prog n fn.params.toList ps->Pure C.prog f ps (.b true))
  {H:Type} {enc:TypeId × Value->H} {apart fresh handsOn again:Bool} (W:World) (base:Nat) (args:Array Value) (ds gs:List (DataW H)) (before:List MemPlace)
  (hval:∀ (j:Nat) t v,fn.params[j]?=some t->args[j]?=some v->Value.okWide C.prog W .any base t v) (hW:DataW.Whole enc C.prog fn.params.toList s.vars apart W args.toList ds gs before)
  (hz:(DataW.weightsEach C.prog (fn.params.toList++s.plain.varTypes C.prog) (ds++gs)).all (·<=reachBytes)=true) :
  Calls C.prog f args W λe W'=>∃ v,e=.returned v/\s.post enc C.prog fn apart fresh handsOn again W args v W':=by
 have hW0:=hW;obtain ⟨p,q,hA,hV,rfl,_,_⟩:=hW;have hV':=hV;rw [hv] at hV';obtain ⟨rfl,rfl⟩:=trodVars_none hV';have hlen:∀ {ts:List TypeId} {vs:List Value} {ds:List (DataW H)} {ps:List MemPlace},DataW.TrodAll enc C.prog W 0 (λ_=>true) true ts vs ds ps->ds.length=ts.length:=by
  intro ts
  induction ts with
  | nil=>intro vs ds ps h;obtain ⟨rfl,rfl,rfl⟩:=trodAll_nil h;rfl
  | cons t ts ih=>intro vs ds ps h;obtain ⟨v,vs1,d,ds1,a,b,rfl,rfl,rfl,h1,h2⟩:=trodAll_cons h;simp [ih h2]
 have hd:=hlen hA;have hz':(DataW.weightsEach C.prog fn.params.toList ds).all (·<=reachBytes)=true:=by
  rw [xar] at hz;have hsub:∀ (ts us:List TypeId) (ds:List (DataW H)),ds.length=ts.length->DataW.weightsEach C.prog (ts++us) ds=DataW.weightsEach C.prog ts ds:=by
   intro ts us
   induction ts with
   | nil=>intro ds h;match ds,h with|[],_=>cases us<;>simp [DataW.weightsEach]
   | cons t ts ih=>intro ds h;match ds,h with|d::ds,h=>simp only [xaM,DataW.weightsEach];rw [ih ds (by simpa using h)]
  rw [hsub _ _ _ hd] at hz;exact hz
 obtain ⟨l,hrep,hfit⟩:=yaJ (n:=n) hA (λj t v ht hv'=>hval j t v (by simpa using ht) (by simpa using hv')) (λt ht=>Option.isSome_iff_exists.1 (xaO.1 hq t ht)) hz'
 have:=(hp l hfit).2 W (λb=>b < W.heap.size) args.toList (λb hb=>hb) hrep
 refine (show Calls C.prog f args W _ from by simpa using this).mono λe W' he=>?_
 obtain ⟨u,rfl,hb,hu⟩:=he;cases hu;exact ⟨_,rfl,yaX hl hrd hW0 hv (hs H ds (by simpa using hd)) hr htb hb⟩
open Go.RowKit Go.Proofs.Tryz
def ybL {κ:Type} (inv:κ->St) (ok:κ->Prop) (μ:κ->Nat) (k:κ) (s:St):Prop:=∃ k',ok k'/\μ k' < μ k/\Pubs s (inv k')
def yb9 {κ:Type} (inv:κ->St) (ok:κ->Prop) (μ:κ->Nat) (k:κ) (Q:zam):zam
 | .normal,s=>ybL inv ok μ k s
 | e,s=>Q e s
section
variable {κ:Type} (inv:κ->St) (ok:κ->Prop) (μ:κ->Nat) (k:κ) (Q:zam) (s:St)
def lpN:yb9 inv ok μ k Q .normal s=ybL inv ok μ k s:=rfl
def lpE (i:Nat):yb9 inv ok μ k Q (.exit i) s=Q (.exit i) s:=rfl
def lpR:yb9 inv ok μ k Q .ret s=Q .ret s:=rfl
end
def yaf {κ:Type} {Q:zam} {s:St} {c:AC} (inv:κ->St) (ok:κ->Prop) (μ:κ->Nat) (k0:κ) (h0:Pubs s (inv k0)) (hk0:ok k0) (hbody:∀ k,ok k->Run G c (inv k) (yb9 inv ok μ k Q)):Run G (.loop c) s Q:=by
 intro hG code hc C a w hr;obtain ⟨C1,hr⟩:=h0.rel hG.mok hr;cases code<;>simp only [zI,xab] at hc
 case loop c1=>
  obtain ⟨x',h1,hc⟩:=hc;injection hc with e1;subst e1;obtain ⟨m,hm⟩:=zuG λa w n=>∃ k C,ok k/\μ k=n/\RelC G.X C (inv k).get (inv k).look (inv k).tr (inv k).stop a w
  refine wpIn_loop (λa w=>∃ n k C,ok k/\μ k=n/\RelC G.X C (inv k).get (inv k).look (inv k).tr (inv k).stop a w) m ⟨_,k0,C1,hk0,rfl,hr⟩ ?_
  intro a w hI;obtain ⟨⟨k,C,hok,hμ,hr⟩,hmin⟩:=hm a w hI;refine wpIn_mono (hbody k hok hG c1 h1 C a w hr) ?_;rintro e a' w' ⟨s',C',hr',hq⟩;cases e with
  | normal=>
   obtain ⟨k',hok',hlt,hcov⟩:=hq;obtain ⟨C2,hr2⟩:=hcov.rel hG.mok hr';have hex:∃ n,(λa w n=>∃ k C,ok k/\μ k=n/\RelC G.X C (inv k).get (inv k).look (inv k).tr (inv k).stop a w) a' w' n:=⟨_,k',C2,hok',rfl,hr2⟩
   refine ⟨hex,?_⟩;have:=(hm a' w' hex).2 (μ k') ⟨k',C2,hok',rfl,hr2⟩
   omega
  | exit id=>exact ⟨s',C',hr',hq⟩
  | ret=>exact ⟨s',C',hr',hq⟩
  | goto l=>exact hq.elim
  | panic c=>exact hq.elim
  | outgrown=>exact hq.elim
 all_goals first|(cases hc;done)|(obtain ⟨_,_,hc⟩:=hc;cases hc;done)|(split at hc<;>cases hc;done)
section
variable {P:Program} {G:Cfg} {Q:zam} {ts:List (List PV)} {dr:Bool} {K:St->List Ft->Prop} {acc:List Ft} {d:Option Nat} {f:Nat} {args:List AOpd} {af:List Nat} {r:List RO} {s:St} {vs:List LV} {res:LV} {obj obj':List (Nat × LObj)}
end
section
variable (m:Nat->Nat)
end
def yaW {c:AC} {s:St} {Q Q':zam} (hm:∀ e s1,Q e s1->Q' e s1) (h:Run G c s Q):Run G c s Q':=λhG code hc C a w hr=>
 wpIn_mono (h hG code hc C a w hr) λe a1 w1 hq=>by
  obtain ⟨s1,C1,h1,h2⟩:=hq;exact ⟨s1,C1,h1,by cases e<;>first|exact hm _ _ h2|exact h2⟩
def cutQ (s':St):zam
 | .normal,s=>Cov s s'
 | _,_=>False
def ycF {x y:AC} {s:St} {Q:zam} (s':St) (h1:Run G x s (cutQ s')) (h2:Run G y s' Q):Run G x s (seqK G y Q):=
 yaW (λe s1 h=>by
  cases e with
  | normal=>exact ztl s' h h2
  | exit i=>exact h.elim
  | ret=>exact h.elim) h1
instance:Mx prog:=⟨mixed⟩
section
variable {P:Program} {ts:List (List PV)} {dr:Bool} {K:St->List Ft->Prop} {acc:List Ft} {d:Option Nat} {f:Nat} {args:List AOpd} {gd:Option (Nat × Bool)} {af:List Nat} {r:List RO} {s:St} {vs:List PV} {res:PV}
end
def ya3:zn []=0:=rfl
def yF (x:ByteArray):Pure prog 115 [.s x] (.b (zcs x)):=by
 refine pz func115 f115.eq_1 λhw X hX=>?_
 simp only [wfs,PV.wf,maxLen] at hw;refine gF2 (λhc=>?_) λhc=>?_
 .rw [zlC hc];exact .refl _
 refine zh (κ:=Nat) (λi=>⟨[(0,.p (.s x)),(3,.p (.i .i64 i))],[],[],false⟩) (λi=>i<=x.size/\∀ j < i,zhz j (zpe x j)=true) (λi=>x.size - i) 0 ?_ ?_ ?_
 .exact sR
 .simp
 .intro i hi
  repeat' first|refine gC ?_ ?_<;>intro hc<;>try contradiction|refine gG ?_|show AK _;intro J Z|refine gJ ?_|omega|exact aT
  .rw [zq4 (i:=i) (by omega)];exact .refl _
   simp only [zhz,zyy,zpe];simp;omega
  .refine ⟨i+1,⟨by omega,λj hj=>?_⟩,by omega,by simp⟩
   by_cases e:j=i
   .subst e;simp only [zhz,zyy,zpe];simp;omega
   .exact hi.2 j (by omega)
  .rw [zop ‹_› hi (by omega)];exact .refl _
def ybn (n a b:Int):Pure prog 219 [.i .i64 n,.i .i64 a,.i .i64 b] (.i .i64 (rng n a b)):=by
 refine pz func219 f219.eq_1 λhw X hX=>?_
 refine gF2 (λhc=>?_) λhc=>?_
 .rw [rng,if_pos hc];exact .refl _
 .rw [zdR.2 hc];exact .refl _
def ybo (n:Int):Pure prog 218 [.i .i64 n] (.i .i64 (rng n 0 99999)):=by
 refine pz func218 f218.eq_1 λhw X hX=>?_
 have jA:=λu1 u2 u3=>ybn u1 u2 u3;exact gD2
def yaD (p:Per):Pure prog 172 [p.pv] (.i .i64 (zbx p)):=by
 refine pz func172 f172.eq_1 λhw X hX=>?_
 repeat' first|refine gC ?_ ?_<;>intro hc<;>try contradiction|refine zg (λ_=>ybo _) ?_|refine za (ybo _) ?_|refine za (ybn _ _ _) ?_|refine gG ?_|show AK _;intro J Z|refine gJ ?_|omega|exact aT
 .rw [show zbx p=3 by simp only [zbx,zn,rng];(repeat' split)<;>omega];exact .refl _
 .rw [show zbx p=11 by simp only [zbx,zn,rng];(repeat' split)<;>omega];exact .refl _
 .rw [show zbx p=4 by simp only [zbx,zn,rng];(repeat' split)<;>omega];exact .refl _
 .rw [show zbx p=rng p.days 1 127 by simp only [zbx,zn,rng];(repeat' split)<;>omega];exact .refl _
def ycP (d:Int) (h0:0<=d) (h1:d<=99999):Pure prog 239 [.i .i64 d] (.i .i64 ((d+5) % 7)):=by
 refine pz func239 f239.eq_1 λhw X hX=>?_
 refine gE2 ?_;rw [xbV (by omega)]
 exact .refl _
def ybm (m w:Int) (h0:0<=m) (h1:m < 128) (h2:0<=w) (h3:w < 7):Pure prog 238 [.i .i64 m,.i .i64 w] (.b (inM m w)):=by
 refine pz func238 f238.eq_1 λhw X hX=>?_
 refine gE2 ?_;refine zh (κ:=Nat) (λi=>⟨[(0,.p (.i .i64 (m / 2 ^ i))),(1,.p (.i .i64 w)),(5,.p (.i .i64 i))],[],[],false⟩) (λi=>i<=w.toNat) (λi=>w.toNat - i) 0 ?_ ?_ ?_
 .exact sS
 .simp
 .intro i hi;have hq:0<=m / 2 ^ i:=xbh h0 (Int.le_of_lt (Int.pow_pos (by decide)))
  have hq2:m / 2 ^ i<=m:=xbr _ h0;have hq3:∀ b,(m / 2 ^ i).tdiv b=(m / 2 ^ i) / b:=λb=>xbp hq
  have hq4:∀ b,(m / 2 ^ i).tmod b=(m / 2 ^ i) % b:=λb=>xbV hq
  have qe:=aI @hq3 @hq4;refine gF2 (λhc=>?_) λhc=>?_
  .refine ⟨i+1,by omega,by omega,?_,by simp⟩
   rw [Int.pow_succ,Int.ediv_ediv_of_nonneg (Int.le_of_lt (Int.pow_pos (by decide)))]
  .have e:i=w.toNat:=by omega
   subst e;exact .refl _
def ycS (p:Per) (d:Int) (h0:0<=d) (h1:d<=99999) (h2:0<=p.days) (h3:p.days < 128):Pure prog 198 [p.pv,.i .i64 d] (.b (zBv p d)):=by
 refine pz func198 f198.eq_1 λhw X hX=>?_
 have qe:=@qR;repeat' first|refine gC ?_ ?_<;>intro hc<;>try contradiction|refine zg (λ_=>ycP _ h0 h1) ?_|(show zp _ _ _ _ (⟨_,.call 238,_,_,_⟩::_) _ _;refine zkX (hf:=λhc=>(by first|exact ybm p.days ((d+5) % 7) h2 h3 (by omega) (by omega)|(simp only [qH,zdR] at hc;exact ybm p.days ((d+5) % 7) h2 h3 (by omega) (by omega)))) (hn:=?_))|refine gG ?_|show AK _;intro J Z|refine gJ ?_|omega|exact aT
 all_goals exact .refl _
def ybA {p:Per} (k:Nat) (h:k < (p.to - p.fro+1).toNat):zBv p (p.fro+k)=inM p.days ((p.fro+k+5) % 7):=by
 simp only [zBv,show p.fro<=p.fro+(k:Int) by omega,show p.fro+(k:Int)<=p.to by omega,decide_true,xaZ]
def yK (p:Per) (k:Nat):List Int:=(List.range k).flatMap λ(k:Nat)=>if inM p.days ((p.fro+k+5) % 7) then [p.fro+k] else []
def ybC (p:Per) (n:Nat):(yK p n).length<=n:=by
 unfold yK
 induction n with
 | zero=>simp
 | succ n ih=>rw [zbE,xad];split<;>simp only [xaz,xbB]<;>omega
def ybh (p:Per) (h:zbx p=0):Pure prog 136 [p.pv] (.sl 1 ((zaK p).map (.i .i64))):=by
 have hp:=zaI h;refine pz func136 f136.eq_1 λhw X hX=>?_
 refine gE2 ?_;refine run_ownL 100 3 1 (κ:=Nat) (λk=>⟨[(1,.lp 1 0),(3,.row 100 (yK p k).length),(4,.p (.i .i64 (p.fro+k)))],[(1,.box [.p (.i .i64 p.fro),.p (.i .i64 p.to),.p (.i .i64 p.days)] false),(100,.row 3 1 ((yK p k).map (.i .i64)) false)],[],false⟩) (λk=>k<=(p.to - p.fro+1).toNat) (λk=>(p.to - p.fro+1).toNat - k) 0 ?_ ?_ ?_
 .refine ⟨gO ?_,gO ?_⟩<;>simp [yK]
 .simp
 .intro k hk;have hl:=ybC p k;have qe:=@qR;repeat' first|refine gC ?_ ?_<;>intro hc<;>try contradiction|refine za (ycS p (p.fro+k) (by omega) (by omega) (by omega) (by omega)) ?_|refine gG ?_|show AK _;intro J Z|refine gJ ?_|omega|exact aT
  .have e:yK p (k+1)=yK p k++[p.fro+(k:Int)]:=by
    rw [ybA k (by omega)] at hc;simp only [yK,zbE,hc,if_true]
   refine ⟨k+1,by omega,by omega,⟨by rw [e];simp,by simp;omega⟩,by rw [e];simp⟩
  .have e:yK p (k+1)=yK p k:=by
    rw [ybA k (by omega)] at hc;simp only [yK,zbE,hc];simp
   refine ⟨k+1,by omega,by omega,⟨by rw [e],by simp;omega⟩,by rw [e]⟩
  .have e:k=(p.to - p.fro+1).toNat:=by omega
   subst e;exact .refl _
def pure87 (m:Mov):Pure prog 240 [m.pv] (.i .i64 (zhS m)):=by
 refine pz func240 f240.eq_1 λhw X hX=>?_
 have qe:=@qR;repeat' first|refine gC ?_ ?_<;>intro hc<;>try contradiction|refine za (zgt _ _ _) ?_|refine za (zyh _) ?_|refine za (zgu _) ?_|refine za (zyg _ _ _) ?_|refine za (zcf _) ?_|refine za (zet _ _) ?_|refine za (zfr [_,_,_,_,_]) ?_|refine gG ?_|show AK _;intro J Z|refine gJ ?_|omega|exact aT
 exact .refl _
def ybl (m s:ByteArray):Pure prog 246 [.s m,.ip (.s s) 0] (.b (decide (m=s))):=by
 refine pz func246 f246.eq_1 λhw X hX=>?_
 exact gD2
def ycO (m:ByteArray):Pure prog 247 [.s m] (.b true):=by
 refine pz func247 f247.eq_1 λhw X hX=>?_
 exact gD2
def pure24 (l:List Mov):Pure prog 202 [.sl 7 (l.map Mov.pv)] (.i .i64 (zfi l)):=by
 refine pz func202 f202.eq_1 λhw X hX=>?_
 simp only [wfs,PV.wf,xaf,maxLen] at hw;refine gF2 (λhc=>?_) λhc=>?_
 .rw [zfi,if_pos (by omega)];exact .refl _
 refine zh (κ:=Nat) (λi=>⟨[(0,.p (.sl 7 (l.map Mov.pv))),(9,.p (.sl 7 (l.map Mov.pv))),(10,.p (.i .i64 l.length)),(11,.p (.i .i64 i))],[],[],false⟩) (λi=>i<=l.length/\∀ x ∈ (zqL l).take i,x=0) (λi=>l.length - i) 0 ?_ ?_ ?_
 .exact sR
 .simp
 .intro i hi;refine gH (λhc=>?_) λhc=>?_
  .obtain ⟨x,hx⟩:=zj (i:=i) (l:=l) (by omega)
   obtain ⟨y,hy⟩:=zj (i:=i - 1) (l:=l) (by omega)
   have e:(max 0 ((i:Int) - 1)).toNat=i - 1:=by omega
   have he:zwx l i x=zn [zhS x,if 0 < (i:Int)/\x.moment < y.moment then 11 else 0]:=by rw [zwx,hy];rfl
   have qe:=aI qR (aI @hx (aI @hy @e));have jA:=pure87 x;have jB:=λu1 u2=>zet u1 u2;have jC:=λu1 u2=>zfr [u1,u2];refine gF5 (λhc=>?_) λhc=>?_
   .rw [<-he] at hc;have hf:zfi l=zwx l i x:=by unfold zfi;rw [if_neg (by omega)];exact zbr hi.2 (zaj hx) hc
    rw [hf,he];simp only [xau,decide_eq_true_eq];exact .refl _
   .rw [<-he] at hc;exact ⟨i+1,⟨by omega,zb0 hi.2 (zaj hx) hc⟩,by omega,by simp⟩
  .refine gE2 ?_;have e:i=(zqL l).length:=by simp [zqL];omega
   subst e;rw [zfi,if_neg (by omega),zbj hi.2];exact .refl _
def pure97 (l:List Lim) (m:List Mov):Pure prog 147 [.sl 11 (l.map Lim.pv),.sl 7 (m.map Mov.pv)] (.i .i64 (zn [zJ l,zfi m])):=by
 refine pz func147 f147.eq_1 λhw X hX=>?_
 have qe:=@qR;have jA:=zfs l;have jB:=pure24 m;have jC:=λu1 u2=>zfr [u1,u2];exact gD5
def pure94 (l:Lim):Pure prog 205 [l.pv] (.fn (.func 242) [] [.ip l.pv 0]):=by
 refine pz func205 f205.eq_1 λhw X hX=>?_
 exact gD2
def yc4 (l:Lim) (h:zr l=0):zsz prog 242 [.ip l.pv 0] ((zaq l).map zwf):=by
 have hl:=zaa h;have hp:=zaI hl.2.2.2.2.2.2.2.1;refine ziM (cF func242 f242.eq_1) (by simp) λhw X hX=>?_
 simp only [zch];refine gE2 ?_;refine zh (κ:=Nat) (λk=>⟨[(0,.yield),(1,.p (.ip l.pv 0)),(2,.lp 2 0),(3,.p (.i .i64 (l.per.fro+k)))],[(2,.box [.yield] false)],(winK l k).map zwf,false⟩) (λk=>k<=winN l) (λk=>winN l - k) 0 ?_ ?_ ?_
 .refine gJ ?_;simp [winK]
 .simp
 .intro k hk;unfold winN at hk;have jA:=zAZ l (l.per.fro+k);refine gF2 (λhc=>?_) λhc=>?_
  .have hs:=zbg (λn:Nat=>zN l (l.per.fro+n)) (show k < winN l by unfold winN;omega)
   refine zcb rfl (zyD l (l.per.fro+k) h) ?_ ?_ [(0,.yield),(1,.p (.ip l.pv 0)),(2,.lp 2 0),(3,.p (.i .i64 (l.per.fro+k)))] (λ_=>[(2,.box [.yield] false)]) (λj=>(winK l k).map zwf++((zN l (l.per.fro+k)).take j).map zwf) ?_ ?_ ?_
   .simp
   .simp [hX]
   .exact sS
   .intro j t ht X' ro' hX';simp only [xal,xab] at ht;obtain ⟨b,hb,rfl⟩:=ht;have hs':(zaq l).map zwf=((winK l k).map zwf++((zN l (l.per.fro+k)).take j).map zwf)++zwf b::(((zN l (l.per.fro+k)).drop (j+1)).map zwf++((List.range' (k+1) (winN l - (k+1))).flatMap λn:Nat=>zN l (l.per.fro+n)).map zwf):=by
     have e:=znF hb;rw [zaq,winK,hs,<-winK]
     conv=>lhs;rw [e]
     simp
    simp only [qS,seval];refine gE2 ?_;intro X1 hX1;have qe:=(zej zwf hb);repeat' first|refine gC ?_ ?_<;>intro hc<;>try contradiction|(show zp _ _ _ _ (⟨_,.callv,_,_,_⟩::_) _ _;refine ze5 (by first|rfl|(simp (disch:=omega) only [qG,qe,seval]<;>rfl)) (by simp (disch:=omega) only [qS,qe,seval]) (by simp (disch:=omega) only [qS,qe,seval]<;>rfl) (by simp (disch:=omega) only [qS,qe,seval];try trivial) rfl _ (hs') ?_;intro b;(refine zw ?_))|refine gG ?_|show AK _;intro J Z|refine gJ ?_|omega|exact aT
    .subst hc;exact .inl rfl
    .subst hc;exact ⟨by rw [xak],rfl⟩
   .have qe:=@List.take_length.{0};refine gE2 ?_;refine ⟨k+1,by unfold winN;omega,by unfold winN;omega,by simp;omega,?_⟩
    rw [winK,zbE,<-winK,xa6]
  .refine gE2 ?_;have e:k=winN l:=by unfold winN;omega
   subst e;exact .inr rfl
def kind_0 (h:zr l=0):l.kind=sA\/l.kind=sD\/l.kind=sT:=by
 unfold zr at h;simp only [zi] at h;have:=h.2.1;unfold zon at this
 by_cases hA:l.kind=sA
 .exact .inl hA
 by_cases hD:l.kind=sD
 .exact .inr (.inl hD)
 by_cases hT:l.kind=sT
 .exact .inr (.inr hT)
 rw [if_pos ⟨hA,hD,hT⟩] at this;exact absurd this (by decide)
def ycR (l:Lim) (k t:ByteArray) (h:zr l=0):Pure prog 241 [l.pv,.s k,.s t] (.b (zbI l k t)):=by
 refine pz func241 f241.eq_1 λhw X hX=>?_
 rcases kind_0 h with hk|hk|hk
 .have hA':(l.kind=sA)=True:=eq_true hk;have qe:=aI qR @hA';have jA:=zig;have jB:=ybl k sA;refine gE2 ?_;rw [zbI,hk,show (decide (sA=sT) || decide (sA=k))=decide (k=sA) by rw [show decide (sA=sT)=false by decide,xb5];exact decide_eq_decide.2 eq_comm];exact .refl _
 .have hA':(l.kind=sA)=False:=eq_false (by rw [hk];decide)
  have hD':(l.kind=sD)=True:=eq_true hk;have qe:=aI qR (aI @hA' @hD');have jA:=zig;have jB:=ybl k sD;refine gE2 ?_;rw [zbI,hk,show (decide (sD=sT) || decide (sD=k))=decide (k=sD) by rw [show decide (sD=sT)=false by decide,xb5];exact decide_eq_decide.2 eq_comm];exact .refl _
 .have hA':(l.kind=sA)=False:=eq_false (by rw [hk];decide)
  have hD':(l.kind=sD)=False:=eq_false (by rw [hk];decide)
  have hT':(l.kind=sT)=True:=eq_true hk;have qe:=aI qR (aI @hA' (aI @hD' @hT'));have jA:=zig;have jB:=ycO k;refine gE2 ?_;rw [zbI,hk,show (decide (sT=sT) || decide (sT=k))=true by rw [decide_eq_true rfl,Bool.true_or],xaZ];exact .refl _
def ybE:PV.any.cells=[.any]:=rfl
def ybk (x:Int):Pure prog 299 [.i .i64 x] (.b false):=by
 refine pz func299 f299.eq_1 λhw X hX=>?_
 have qe:=@zb2;exact gD2
def ycM (a b:Int):Pure prog 298 [.i .i64 a,.i .i64 b] (.b (decide (a < b))):=by
 refine pz func298 f298.eq_1 λhw X hX=>?_
 have jA:=λu1=>zya u1;have jB:=λu1=>zya u1;exact gD2
def yD (l:List Int):Prop:=∀ (i j:Nat) (x y:Int),i<=j->l[i]?=some x->l[j]?=some y->x<=y
def ltN_at {l:List Int} {x:Int} (h1:∀ y ∈ l.take i,y < x) (h2:∀ y ∈ l.drop i,x<=y) (hi:i<=l.length):ltN l x=i:=by
 conv=>lhs;rw [<-xaq i l]
 rw [ltN,xbe,xad,List.filter_eq_self.2 (λy hy=>by simpa using h1 y hy),List.filter_eq_nil_iff.2 (λy hy=>by have:=h2 y hy;simp;omega)]
 simp;omega
def ycN (l:List Int) (x:Int) (hs:yD l) (hn:l.length<=1000000):Pure prog 283 [.sl 1 (l.map (.i .i64)),.i .i64 x] (.tup [.i .i64 (ltN l x),.any]):=by
 refine pz func283 f283.eq_1 λhw X hX=>?_
 simp only [wfs,PV.wf,xaf,maxLen] at hw;refine gE2 ?_;refine zh (κ:=Nat × Nat) (λk=>⟨[(0,.p (.sl 1 (l.map (.i .i64)))),(1,.p (.i .i64 x)),(6,.p (.i .i64 l.length)),(7,.p (.i .i64 k.1)),(8,.p (.i .i64 k.2))],[],[],false⟩) (λk=>k.1<=k.2/\k.2<=l.length/\(∀ y ∈ l.take k.1,y < x)/\∀ y ∈ l.drop k.2,x<=y) (λk=>k.2 - k.1) (0,l.length) ?_ ?_ ?_
 .exact sS
 .simp
 .intro k hk;obtain ⟨i,j⟩:=k;simp only at hk;have hm:IntKind.i64.wrap ((IntKind.u64.wrap ((i:Int)+j)).fdiv (2 ^ min (Int.toNat 1) IntKind.u64.bits))=(((i+j) / 2:Nat):Int):=by
   rw [IntKind.wrap_u64,show (2:Int) ^ min (Int.toNat 1) IntKind.u64.bits=2 from rfl,Int.fdiv_eq_ediv_of_nonneg _ (by decide)]
   rw [show (((i:Int)+j) % 18446744073709551616 / 2)=(((i+j) / 2:Nat):Int) by omega]
   exact zjo (by omega) (by omega)
  by_cases hij:i < j
  .obtain ⟨y,hy⟩:=zj (i:=(i+j) / 2) (l:=l) (by omega)
   have qe:=aI @hm @hy;have jA:=λu1 u2=>ycM u1 u2;refine gF2 (λhc=>?_) λhc=>?_
   .refine ⟨((i+j) / 2+1,j),⟨by simp only;omega,hk.2.1,λz hz=>?_,hk.2.2.2⟩,by simp only;omega,by simp,rfl⟩
    obtain ⟨q,hq⟩:=xa9 hz;rw [xaQ] at hq
    split at hq
    .have:=hs q ((i+j) / 2) z y (by omega) hq hy;omega
    .cases hq
   .refine ⟨(i,(i+j) / 2),⟨by simp only;omega,by simp only;omega,hk.2.2.1,λz hz=>?_⟩,by simp only;omega,rfl,rfl⟩
    obtain ⟨q,hq⟩:=xa9 hz;rw [xaY] at hq;have:=hs ((i+j) / 2) _ y z (by omega) hy hq;omega
  .have e:i=j:=by omega
   subst e;have hres:=ltN_at hk.2.2.1 hk.2.2.2 hk.2.1
   by_cases hil:i < l.length
   .obtain ⟨y,hy⟩:=zj (i:=i) (l:=l) hil;have hil':((i:Int) < l.length)=True:=eq_true (by omega)
    by_cases hyx:y=x
    .have hyx':(y=x)=True:=eq_true hyx;have qe:=aI @hm (aI @hy (aI @hil' @hyx'));have jA:=λu1=>ybk u1;refine gE2 ?_
     rw [hres];exact zdc (.refl _) (.any _)
    .have hyx':(y=x)=False:=eq_false hyx;have qe:=aI @hm (aI @hy (aI @hil' @hyx'));have jA:=λu1=>ybk u1;refine gE2 ?_
     rw [hres];exact zdc (.refl _) (.any _)
   .have hil':((i:Int) < l.length)=False:=eq_false (by omega)
    have hy:l[i]?=none:=xck (by omega)
    have qe:=aI @hm (aI @hil' (aI @hy @ybE));repeat' first|refine gC ?_ ?_<;>intro hc<;>try contradiction|(show zp _ _ _ _ (⟨_,.call _,_,_,_⟩::_) _ _;refine zkX (hf:=λhc=>(by first|exact (absurd hc Bool.false_ne_true:Pure prog 299 _ (.b false))|(simp only [qH,zdR] at hc;exact (absurd hc Bool.false_ne_true:Pure prog 299 _ (.b false))))) (hn:=?_))|refine gG ?_|show AK _;intro J Z|refine gJ ?_|omega|exact aT
    rw [hres];exact zdc (.refl _) (.any _)
def ycQ (l:List Int) (x:Int) (hs:yD l) (hn:l.length<=1000000):Pure prog 244 [.sl 1 (l.map (.i .i64)),.i .i64 x] (.i .i64 (ltN l x)):=by
 refine pz func244 f244.eq_1 λhw X hX=>?_
 have jA:=ycN l x hs hn;exact gD2
def ycr (l:List Int) (x:Int):ltN l x<=l.length:=xby _ _
def pure93 (l:List Int) (b len:Int) (hs:yD l) (hn:l.length<=1000000) (h0:-1000000<=b) (h1:b<=1000000000) (h2:0<=len) (h3:len<=10000):Pure prog 206 [.sl 1 (l.map (.i .i64)),.i .i64 b,.i .i64 len] (.i .i64 (cntW l b len)):=by
 refine pz func206 f206.eq_1 λhw X hX=>?_
 have e1:=ycr l (b+len);have e2:=ycr l b
 repeat' first|refine gC ?_ ?_<;>intro hc<;>try contradiction|refine za (ycQ l _ hs hn) ?_|refine gG ?_|show AK _;intro J Z|refine gJ ?_|omega|exact aT
 exact .refl _
abbrev yL (k:ByteArray × ByteArray):PV:=.agg [.s k.1,.s k.2]
abbrev yay (l:Lim) (k:ByteArray × ByteArray):PV × PV:=(yL k,.b (zbI l k.1 k.2))
def ycy (a b:ByteArray × ByteArray):eqCells (yL a).cells (yL b).cells=(decide (a.1=b.1) && decide (a.2=b.2)):=by
 simp only [PV.cells,eqCells,eqPV,xbL]
theorem yaN (l:Lim) (k:ByteArray × ByteArray):∀ (es:List (ByteArray × ByteArray)),mget (yL k) (es.map (yay l))=none\/mget (yL k) (es.map (yay l))=some (.b (zbI l k.1 k.2))
 | []=>.inl rfl
 | e::r=>by
  simp only [xaj,mget,ycy]
  split
  .rename_i h;simp only [xau,decide_eq_true_eq] at h
   right;rw [h.1,h.2]
  .exact yaN l k r
theorem yaM (l:Lim) (k:ByteArray × ByteArray):∀ (es:List (ByteArray × ByteArray)),∃ es':List (ByteArray × ByteArray),mput (yL k) (.b (zbI l k.1 k.2)) (es.map (yay l))=es'.map (yay l)
 | []=>⟨[k],rfl⟩
 | e::r=>by
  simp only [xaj,mput,ycy]
  split
  .exact ⟨k::r,rfl⟩
  .obtain ⟨es',h⟩:=yaM l k r;exact ⟨e::es',by rw [h];rfl⟩
theorem yP (l:Lim) (k:ByteArray × ByteArray):∀ (es:List (ByteArray × ByteArray)),keysOk [2,2] true (yL k) (es.map (yay l))
 | []=>trivial
 | e::r=>⟨⟨rfl,by simp [PV.cells,eqCellsOk,eqOk]⟩,yP l k r⟩
def yb7 {x:Mov} (hx:m[i]?=some x):ofL l (m.take (i+1))=ofL l (m.take i)++if zbI l x.kind x.term then [x.moment] else []:=by
 rw [ofL,xaW,hx,xbe,xa6]
 congr 1
 cases hh:zbI l x.kind x.term<;>simp [xa2,hh]
def pure92 (l:Lim) (m:List Mov) (h:zr l=0) (hn:m.length<=1000000):Pure prog 204 [l.pv,.sl 7 (m.map Mov.pv)] (.sl 1 ((ofL l m).map (.i .i64))):=by
 refine pz func204 f204.eq_1 λhw X hX=>?_
 simp only [wfs,PV.wf,xaf,maxLen] at hw;refine gE2 ?_;refine zaB 100 3 1 [(2,.lp 2 0),(5,.row 100 0),(6,.lm 12),(13,.p (.sl 7 (m.map Mov.pv))),(14,.p (.i .i64 m.length)),(15,.p (.i .i64 0))] [(2,.box (l.cells.map .p) false),(12,.mp [] false)] ?_ ?_
 .simp only [Own,za9,za3,zcg,zaT,qS,seval]
 refine zh (κ:=Nat × List (ByteArray × ByteArray)) (λk=>⟨[(2,.lp 2 0),(5,.row 100 (ofL l (m.take k.1)).length),(6,.lm 12),(13,.p (.sl 7 (m.map Mov.pv))),(14,.p (.i .i64 m.length)),(15,.p (.i .i64 k.1))],[(2,.box (l.cells.map .p) false),(12,.mp (k.2.map (yay l)) false),(100,.row 3 1 ((ofL l (m.take k.1)).map (.i .i64)) false)],[],false⟩) (λk=>k.1<=m.length) (λk=>m.length - k.1) (0,[]) ?_ ?_ ?_
 .refine gJ ?_;simp [ofL]
 .simp
 .intro k hk;obtain ⟨i,es⟩:=k;simp only at hk;have hl:(ofL l (m.take i)).length<=i:=by
   simp only [ofL,xaf];exact xa0 (xby _ _) (by simp;omega)
  refine gH (λhc=>?_) λhc=>?_
  .obtain ⟨x,hx⟩:=zj (i:=i) (l:=m) (by omega)
   have hko:keysOk [2,2] true (.agg [.s x.kind,.s x.term]) (es.map (yay l))=True:=eq_true (yP l (x.kind,x.term) es);obtain ⟨es',hput⟩:=yaM l (x.kind,x.term) es;simp only [yL] at hput;have hnx:=yb7 (l:=l) hx
   rcases yaN l (x.kind,x.term) es with hg|hg
   .simp only [yL] at hg;have qe:=aI qR (aI @hx (aI @hko (aI @hg @hput)));have jA:=ycR l x.kind x.term h;refine gF2 (λhc=>?_) λhc=>?_
    .rw [hc,if_pos rfl] at hnx;exact ⟨(i+1,es'),by simp only;omega,by simp only;omega,⟨by simp only [hnx];simp,by simp⟩,rfl,by simp only [hnx];simp⟩
    .rw [hc] at hnx;exact ⟨(i+1,es'),by simp only;omega,by simp only;omega,⟨by simp only [hnx];simp,by simp⟩,rfl,by simp only [hnx];simp⟩
   .simp only [yL] at hg;have qe:=aI qR (aI @hx (aI @hko @hg));refine gF2 (λhc=>?_) λhc=>?_
    .rw [hc,if_pos rfl] at hnx;exact ⟨(i+1,es),by simp only;omega,by simp only;omega,⟨by simp only [hnx];simp,by simp⟩,rfl,by simp only [hnx];simp⟩
    .rw [hc] at hnx;exact ⟨(i+1,es),by simp only;omega,by simp only;omega,⟨by simp only [hnx];simp,by simp⟩,rfl,by simp only [hnx];simp⟩
  .refine gE2 ?_;have e:i=m.length:=by omega
   subst e;rw [xah];exact .refl _
def yG {l:List Int} (h:l.Pairwise (·<=·)):yD l:=by
 intro i j x y hij hx hy;obtain ⟨hi,rfl⟩:=xaa.1 hx;obtain ⟨hj,rfl⟩:=xaa.1 hy
 rcases Nat.lt_or_eq_of_le hij with h1|h1
 .exact xa1.1 h i j hi hj h1
 .subst h1;exact Int.le_refl _
def yaY (h:zfi m=0):yD (ofL l m):=by
 refine yG ?_;have:=(zrW h).2.2;rw [xca] at this;rw [ofL,xca];exact this.filter _
def yc0:(ofL l m).length<=m.length:=by
 simp only [ofL,xaf];exact xby _ _
def ybg (h1:zr l=0) (h2:zfi m=0) (b:Int) (hb0:-1000000<=b) (hb1:b<=1000000000):Pure prog 206 [.sl 1 ((ofL l m).map (.i .i64)),.i .i64 b,.i .i64 l.len] (.i .i64 (zbb l m b)):=by
 have hl:=zaa h1;have hm:=zrW h2;have:=yc0 (l:=l) (m:=m);exact pure93 _ _ _ (yaY h2) (by omega) hb0 hb1 (by omega) (by omega)
abbrev ybM (w:Win):List PV:=[w.pv]
def yk (m:List Mov) (i:Nat) (l:Lim) (b:Int):List Win:=if l.most < zbb l m b then [⟨i,b,zbb l m b⟩] else []
def ybB (m:List Mov) (i:Nat) (l:Lim):List Win:=(zaq l).flatMap (yk m i l)
def ya5 (ls:List Lim) (m:List Mov) (i:Nat):List Win:=match ls[i]? with|some l=>ybB m i l|none=>[]
def yn (ls:List Lim) (m:List Mov) (k:Nat):List Win:=(List.range k).flatMap (ya5 ls m)
def yw (ls:List Lim) (m:List Mov):List Win:=yn ls m ls.length
def yH {α β:Type} {l:List α} {x:α} (f:α->List β) (h:l[j]?=some x):(l.take (j+1)).flatMap f=(l.take j).flatMap f++f x:=by
 rw [xaW,h];simp
def ya2 {α β:Type} {l:List α} {x:α} (f:α->List β) (h:l[j]?=some x):l.flatMap f=(l.take j).flatMap f++(f x++(l.drop (j+1)).flatMap f):=by
 conv=>lhs;rw [znF h]
 simp
def ycT (ls:List Lim) (m:List Mov):Pure prog 148 [.sl 11 (ls.map Lim.pv),.sl 7 (m.map Mov.pv)] (.fn (.func 203) [] [.ip (.sl 11 (ls.map Lim.pv)) 0,.ip (.sl 7 (m.map Mov.pv)) 0]):=by
 refine pz func148 f148.eq_1 λhw X hX=>?_
 exact gD2
def yc3 (ls:List Lim) (m:List Mov) (hn:ls.length<=1000000) (h:∀ l ∈ ls,zr l=0) (hm:zfi m=0):zsz prog 203 [.ip (.sl 11 (ls.map Lim.pv)) 0,.ip (.sl 7 (m.map Mov.pv)) 0] ((yw ls m).map ybM):=by
 refine ziM (cF func203 f203.eq_1) (by simp) λhw X hX=>?_
 simp only [wfs,PV.wf,xaf,maxLen] at hw;have hmm:=zrW hm;simp only [zch];refine gE2 ?_;refine zh (κ:=Nat) (λk=>⟨[(1,.p (.ip (.sl 11 (ls.map Lim.pv)) 0)),(2,.p (.ip (.sl 7 (m.map Mov.pv)) 0)),(3,.lp 3 0),(9,.p (.sl 11 (ls.map Lim.pv))),(10,.p (.i .i64 ls.length)),(11,.p (.i .i64 k))],[(3,.box [.yield] false)],(yn ls m k).map ybM,false⟩) (λk=>k<=ls.length) (λk=>ls.length - k) 0 ?_ ?_ ?_
 .refine gJ ?_;simp [yn]
 .simp
 .intro k hk;refine gH (λhc=>?_) λhc=>?_
  .obtain ⟨l,hx⟩:=zj (i:=k) (l:=ls) (by omega)
   have h1:=h l (xae hx);have hi:ya5 ls m k=ybB m k l:=by rw [ya5,hx]
   have hs:=zbg (ya5 ls m) (show k < ls.length by omega)
   have qe:=aI qR @hx;have jA:=pure92 l m h1 (by omega);have jB:=pure94 l;refine gE2 ?_
   refine zcb rfl (yc4 l h1) ?_ ?_ [(1,.p (.ip (.sl 11 (ls.map Lim.pv)) 0)),(2,.p (.ip (.sl 7 (m.map Mov.pv)) 0)),(3,.lp 3 0),(4,.lp 4 0),(5,.lp 5 0),(6,.lp 6 0),(9,.p (.sl 11 (ls.map Lim.pv))),(10,.p (.i .i64 ls.length)),(11,.p (.i .i64 k))] (λj=>[(3,.box [.yield] false),(4,.box [.p (.i .i64 k)] false),(5,.box (l.cells.map .p) false),(6,.box [.p (.sl 1 ((ofL l m).map (.i .i64)))] false)]) (λj=>(yn ls m k).map ybM++(((zaq l).take j).flatMap (yk m k l)).map ybM) ?_ ?_ ?_
   .simp
   .simp [hX]
   .exact sS
   .intro j t ht X' ro' hX';simp only [xal,xab] at ht;obtain ⟨b,hb,rfl⟩:=ht;have hbm:=zfn h1 (xae hb);have hnx:=yH (yk m k l) hb;simp only [qS,seval];refine gE2 ?_;intro X1 hX1
    by_cases hgt:l.most < zbb l m b
    .have hgt':=eq_true hgt;rw [show yk m k l b=[⟨k,b,zbb l m b⟩] by rw [yk,if_pos hgt]] at hnx
     have hs':(yw ls m).map ybM=((yn ls m k).map ybM++(((zaq l).take j).flatMap (yk m k l)).map ybM)++ybM ⟨k,b,zbb l m b⟩::((((zaq l).drop (j+1)).flatMap (yk m k l)).map ybM++((List.range' (k+1) (ls.length - (k+1))).flatMap (ya5 ls m)).map ybM):=by
      rw [yw,yn,hs,hi,ybB,ya2 (yk m k l) hb,show yk m k l b=[⟨k,b,zbb l m b⟩] by rw [yk,if_pos hgt],yn]
      simp
     have qe:=aI qR @hgt';repeat' first|refine gC ?_ ?_<;>intro hc<;>try contradiction|refine za (ybg h1 hm b (by omega) (by omega)) ?_|(show zp _ _ _ _ (⟨_,.callv,_,_,_⟩::_) _ _;refine ze5 (by first|rfl|(simp (disch:=omega) only [qG,qe,seval]<;>rfl)) (by simp (disch:=omega) only [qS,qe,seval]) (by simp (disch:=omega) only [qS,qe,seval]<;>rfl) (by simp (disch:=omega) only [qS,qe,seval];try trivial) rfl _ (hs') ?_;intro b;(refine zw ?_))|refine gG ?_|show AK _;intro J Z|refine gJ ?_|omega|exact aT
     .subst hc;exact .inl rfl
     .subst hc;rw [hnx];exact ⟨by simp,rfl⟩
    .have hgt':=eq_false hgt;rw [show yk m k l b=[] by rw [yk,if_neg hgt]] at hnx
     have qe:=aI qR @hgt';repeat' first|refine gC ?_ ?_<;>intro hc<;>try contradiction|refine za (ybg h1 hm b (by omega) (by omega)) ?_|(show zp _ _ _ _ (⟨_,.callv,_,_,_⟩::_) _ _;refine zbn (q:=(.b false)) (by first|rfl|(simp (disch:=omega) only [qG,qe,seval]<;>rfl)) ?_;(try (refine zw ?_)))|refine gG ?_|show AK _;intro J Z|refine gJ ?_|omega|exact aT
     rw [hnx];simp
   .have qe:=@List.take_length.{0};refine gE2 ?_;refine ⟨k+1,by omega,by omega,by simp,?_⟩
    rw [yn,zbE,hi,ybB,<-yn,xa6]
  .refine gE2 ?_;have e:k=ls.length:=by omega
   subst e;exact .inr rfl
def yc6 (ls:List Lim) (m:List Mov):Int:=if bothC ls m=0 then (match yw ls m with|[]=>7|_::_=>0) else bothC ls m
def firR (ls:List Lim) (m:List Mov):Win:=if bothC ls m=0 then (match yw ls m with|[]=>⟨0,0,0⟩|w::_=>w) else ⟨0,0,0⟩
def pure57 (ls:List Lim) (m:List Mov):Pure prog 73 [.sl 11 (ls.map Lim.pv),.sl 7 (m.map Mov.pv)] (.tup [(firR ls m).pv,.i .i64 (yc6 ls m)]):=by
 refine pz func73 f73.eq_1 λhw X hX=>?_
 have qe:=@qR;repeat' first|refine gC ?_ ?_<;>intro hc<;>try contradiction|refine za (pure97 ls m) ?_|refine gG ?_|show AK _;intro J Z|refine gJ ?_|omega|exact aT
 .rw [yc6,if_neg hc,firR,if_neg hc];exact .refl _
 .have h0:=hc;have h1:=hc;simp only [zi] at h1;have hl:=zU h1.1;have qe:=@qR;have jA:=ycT ls m;refine gE2 ?_;refine zb7 rfl (yc3 ls m (by omega) hl.2 h1.2.1) ?_ ?_ [(4,.lp 4 0),(5,.lp 5 0)] (λk=>[(4,.box [.p (.i .i64 0),.p (.i .i64 0),.p (.i .i64 0)] false),(5,.box [.p (.i .i64 0)] false)]) (λ_=>[]) (λk=>k=0) ?_ ?_ ?_ ?_
  .simp
  .simp [hX]
  .exact sE
  .rfl
  .intro k t ht hok X' ro' hX';subst hok;simp only [xal,xab] at ht;obtain ⟨w,hy,rfl⟩:=ht;simp only [qS,seval];have qe:=@qR;refine gE2 ?_;intro X1 hX1;have qe:=@qR;refine gE2 ?_;cases he:yw ls m with
   | nil=>rw [he] at hy;cases hy
   | cons a r=>
    rw [he] at hy;injection hy with hy;subst hy;rw [yc6,if_pos h0,firR,if_pos h0,he];exact .refl _
  .intro hok;have he:yw ls m=[]:=xay (by simpa using hok)
   have qe:=@qR;refine gE2 ?_;rw [yc6,if_pos h0,firR,if_pos h0,he];exact .refl _
def ycp (s:ByteArray):Pure prog 170 [.s s] (.b (decide (s=s0) || zcs s)):=by
 refine pz func170 f170.eq_1 λhw X hX=>?_
 have jA:=λu1=>yF u1;exact gD2
def ybi (n a b:Int):Pure prog 171 [.i .i64 n,.i .i64 a,.i .i64 b] (.b (decide (n < a) || decide (b < n))):=by
 refine pz func171 f171.eq_1 λhw X hX=>?_
 exact gD2
def yb (h:e=0):zn (e::r)=zn r:=by rw [zn,if_pos h]
def yI (h:e≠0):zn (e::r)=e:=by rw [zn,if_neg h]
def ycH (h:n < a\/b < n):rng n a b=3:=by rw [rng,if_pos h]
def yar (h:zcs s=true):zfA s=0:=by rw [zfA,if_neg (by simp [h])]
def y3 (h:zcs s=false):zfA s=8:=by rw [zfA,if_pos h]
def yaL (h:s=s0\/zcs s=true):zo6 s=0:=by rw [zo6,if_neg];rintro ⟨h1,h2⟩;rcases h with h|h<;>simp_all
def ybs (h:¬s=s0/\zcs s=false):zo6 s=8:=by rw [zo6,if_pos h]
def yJ {k:Int} (h:e=k) (hk:k≠0):zn (e::r)=k:=by rw [yI (by rw [h];exact hk),h]
def ybv {c:Int} (h:0<=a/\a<=999/\0<=b/\b<=9/\0<=c/\c<=99):zyv a b c=0:=by rw [zyv];simp only [zn,rng];(repeat' split)<;>omega
def ybx (h:¬k=sA/\¬k=sD->k=sT):zon k=0:=by rw [zon,if_neg];rintro ⟨h1,h2,h3⟩;exact h3 (h ⟨h1,h2⟩)
def yaO (h:(¬k=sA/\¬k=sD)/\¬k=sT):zon k=13:=by rw [zon,if_pos ⟨h.1.1,h.1.2,h.2⟩]
def yaj (h:¬k=sA->k=sD):zgM k=0:=by rw [zgM,if_neg];rintro ⟨h1,h2⟩;exact h2 (h h1)
def yQ (h:¬k=sA/\¬k=sD):zgM k=13:=by rw [zgM,if_pos h]
def ybj (l:Lim):Pure prog 89 [l.pv] (.i .i64 (zr l)):=by
 refine pz func89 f89.eq_1 λhw X hX=>?_
 repeat' first|refine gC ?_ ?_<;>intro hc<;>try contradiction|refine za (yF _) ?_|refine za (ycp _) ?_|refine zg (λ_=>ybi _ _ _) ?_|refine za (yaD l.per) ?_|refine gG ?_|show AK _;intro J Z|refine gJ ?_|omega|exact aT
 all_goals (refine weakI (Eq.symm ?_);rw [zr];(repeat refine Eq.trans (yb (by first|exact yar (by assumption)|exact ybx (by assumption)|exact yaj (by assumption)|exact yaL (by assumption)|exact zdR.2 (by omega)|exact ybv (by omega)|exact if_neg (by omega)|assumption)) ?_);first|rfl|exact yJ (by first|exact y3 (by assumption)|exact yaO (by assumption)|exact yQ (by assumption)|exact ybs (by assumption)|exact ycH (by omega)|exact if_pos (by omega)|rfl) (by first|decide|assumption)|(simp only [zn,rng,zyv];(repeat' split)<;>omega))
def pure72 (l:List Lim) (n:ByteArray):Pure prog 90 [.sl 11 (l.map Lim.pv),.s n] (.i .i64 (atL n (l.map Lim.name))):=by
 refine pz func90 f90.eq_1 λhw X hX=>?_
 simp only [wfs,PV.wf,xaf,maxLen] at hw;refine gE2 ?_;refine zh (κ:=Nat) (λi=>⟨[(0,.p (.sl 11 (l.map Lim.pv))),(1,.p (.s n)),(5,.p (.i .i64 i))],[],[],false⟩) (λi=>i<=l.length/\∀ x ∈ (l.map Lim.name).take i,x≠n) (λi=>l.length - i) 0 ?_ ?_ ?_
 .exact sR
 .simp
 .intro i hi;refine gH (λhc=>?_) λhc=>?_
  .obtain ⟨x,hx⟩:=zj (i:=i) (l:=l) (by omega)
   have qe:=@hx;refine gF2 (λhc=>?_) λhc=>?_
   .rw [zr8 hi.2 (by simp [hx,hc])];exact .refl _
   .refine ⟨i+1,⟨by omega,λy hy=>?_⟩,by omega,by simp⟩
    rw [<-xbK,zej _ hx] at hy
    rcases xaS.1 hy with h|h
    .exact hi.2 y (by rw [<-xbK];exact h)
    .simp at h;subst h;exact hc
  .refine gE2 ?_;have e:i=l.length:=by omega
   subst e;rw [zsa (λy hy=>hi.2 y (by rw [xas (by simp)];exact hy))];exact .refl _
def yah (l:List Lim):Pure prog 20 [.sl 11 (l.map Lim.pv)] (.i .i64 (zJ l)):=by
 refine pz func20 f20.eq_1 λhw X hX=>?_
 simp only [wfs,PV.wf,xaf,maxLen] at hw;refine gF2 (λhc=>?_) λhc=>?_
 .rw [zJ,if_pos (by omega)];exact .refl _
 refine zh (κ:=Nat) (λi=>⟨[(0,.p (.sl 11 (l.map Lim.pv))),(3,.p (.i .i64 i))],[],[],false⟩) (λi=>i<=l.length/\∀ x ∈ (ziD l).take i,x=0) (λi=>l.length - i) 0 ?_ ?_ ?_
 .exact sR
 .simp
 .intro i hi;refine gH (λhc=>?_) λhc=>?_
  .obtain ⟨x,hx⟩:=zj (i:=i) (l:=l) (by omega)
   have key:∀ e:Int,zqU l i x=e->e≠0->zJ l=e:=λe he h0=>by subst he;unfold zJ;rw [if_neg (by omega)];exact zbr hi.2 (zaj hx) h0
   have qe:=aI qR (aI @hx @zsU);repeat' first|refine gC ?_ ?_<;>intro hc<;>try contradiction|refine za (ybj x) ?_|refine za (pure72 (l.take i) x.name) ?_|refine gG ?_|show AK _;intro J Z|refine gJ ?_|omega|exact aT
   .rw [key (zr x) (by rw [zqU,yI hc]) hc];exact .refl _
   .rw [key 9 (by rw [zqU,yb (by assumption),yJ (if_pos hc) (by decide)]) (by decide)];exact .refl _
   .exact ⟨i+1,⟨by omega,zb0 hi.2 (zaj hx) (by rw [zqU,yb (by assumption),yb (if_neg (by omega)),ya3])⟩,by omega,by simp⟩
  .refine gE2 ?_;have e:i=(ziD l).length:=by simp [ziD];omega
   subst e;rw [zJ,if_neg (by omega),zbj hi.2];exact .refl _
def pure20 (r:Req):Pure prog 114 [r.pv] (.i .i64 (zbY r)):=by
 refine pz func114 f114.eq_1 λhw X hX=>?_
 repeat' first|refine gC ?_ ?_<;>intro hc<;>try contradiction|refine za (yF _) ?_|refine za (ycp _) ?_|refine za (ybi _ _ _) ?_|refine zg (λ_=>ybi _ _ _) ?_|refine za (yaD r.per) ?_|refine gG ?_|show AK _;intro J Z|refine gJ ?_|omega|exact aT
 all_goals (refine weakI (Eq.symm ?_);rw [zbY];(repeat refine Eq.trans (yb (by first|exact yar (by assumption)|exact ybx (by assumption)|exact yaj (by assumption)|exact yaL (by assumption)|exact zdR.2 (by omega)|exact ybv (by omega)|exact if_neg (by omega)|assumption)) ?_);first|rfl|exact yJ (by first|exact y3 (by assumption)|exact yaO (by assumption)|exact yQ (by assumption)|exact ybs (by assumption)|exact ycH (by omega)|exact if_pos (by omega)|rfl) (by first|decide|assumption)|(simp only [zn,rng,zyv];(repeat' split)<;>omega))
def fewB (p:Per) (n:Int):Bool:=!decide (zbx p=0) || decide (p.to - p.fro < n)
def yaE (p:Per) (n:Int):Pure prog 145 [p.pv,.i .i64 n] (.b (fewB p n)):=by
 refine pz func145 f145.eq_1 λhw X hX=>?_
 by_cases h:zbx p=0
 .have hp:=zaI h;have h':=eq_true h;have qe:=@h';have jA:=yaD p;refine gE2 ?_;simp only [fewB,h',decide_true,xaC,xb5];exact .refl _
 .have h':=eq_false h;have qe:=@h';have jA:=yaD p;refine gE2 ?_;simp only [fewB,h',decide_false,xax,Bool.true_or];exact .refl _
def pure76 (l:Lim) (h:zr l=0):Pure prog 146 [l.pv] (.i .i64 (zkw l)):=by
 have hl:=zaa h;have hq1:(l.fro+l.step - 1).tdiv l.step=l.from_:=xbp (by omega)
 have hq2:l.to.tdiv l.step=l.to / l.step:=xbp (by omega)
 have hb1:0<=l.from_:=xbh (by omega) (by omega)
 have hb2:l.from_<=l.fro+l.step - 1:=xbr _ (by omega)
 have hb3:0<=l.to / l.step:=xbh (by omega) (by omega)
 have hb4:l.to / l.step<=l.to:=xbr _ (by omega)
 have hN:l.to / l.step - l.from_+1=(zkw l:Int):=by
  unfold zkw;have:(l.fro - 1) / l.step<=l.to / l.step:=Int.ediv_le_ediv (by omega) (by omega)
  have e:l.from_=(l.fro - 1) / l.step+1:=by unfold Lim.from_;rw [show l.fro+l.step - 1=l.fro - 1+1*l.step by omega,Int.add_mul_ediv_right _ _ (by omega)]
  omega
 refine pz func146 f146.eq_1 λhw X hX=>?_
 have qe:=aI @hq1 @hq2;refine gE2 ?_;rw [hN];exact .refl _
def natle (n:Nat):(decide ((n:Int)<=40))=decide (n<=40):=by simp;omega
def shReq (r:Req):Bool:=((decide (r.name.size<=40) && decide (r.kind.size<=40)) && decide (r.term.size<=40)) && fewB r.per 24
def pure17 (r:Req):Pure prog 113 [r.pv] (.b (shReq r)):=by
 refine pz func113 f113.eq_1 λhw X hX=>?_
 have jA:=yaE r.per 24;have jB:=yaE r.per 24;refine gE2 ?_;rw [shReq];refine zhe ?_;simp only [<-natle]
def ybJ {α:Type} {l:List α} {p:α->Bool} {x:α} (hx:l[i]?=some x) (hp:p x=false):l.all p=false:=by
 cases h:l.all p
 .rfl
 .rw [xaO] at h;rw [h x (xae hx)] at hp;exact hp
def yaa {α:Type} {l:List α} {p:α->Bool} {x:α} (h:∀ y ∈ l.take i,p y=true) (hx:l[i]?=some x) (hp:p x=true):∀ y ∈ l.take (i+1),p y=true:=by
 intro y hy;rw [xaW,hx] at hy
 rcases xaS.1 hy with hy|hy
 .exact h y hy
 .simp at hy;subst hy;exact hp
def ybK {α:Type} {l:List α} {p:α->Bool} (h:∀ y ∈ l.take l.length,p y=true):l.all p=true:=by
 rw [xah] at h;rw [xaO];exact h
def allI (L:List Int):L.all ((λx=>x.cells.all PV.one) ∘ PV.i IntKind.i64)=true:=by rw [xaO];intro x _;rfl
theorem yg {α β:Type} {f:α->List β}:∀ {l:List α},(∀ x ∈ l,(f x).length<=c)->(l.flatMap f).length<=l.length*c
 | [],_=>by simp
 | x::r,h=>by
  have h1:=h x (by simp)
  have h2:=yg (l:=r) λy hy=>h y (by simp [hy])
  simp only [xat,xad,xaz,Nat.succ_mul];omega
def yaw {α:Type} {l:List α} {p:α->Bool} {k:Nat} {x:α} (h:l[k]?=some x):(l.take (k+1)).filter p=(l.take k).filter p++(if p x then [x] else []):=by
 rw [xaW,h,xbe];cases hp:p x<;>simp [xa2,hp]
def yav {α:Type} {l:List α} {p:α->Bool} {k:Nat}:((l.take k).filter p).length<=l.length:=by
 have:=xby p (l.take k);simp only [xan] at this;omega
def pure38 (l:List Int) (x:Int):Pure prog 46 [.sl 1 (l.map (.i .i64)),.i .i64 x] (.b (decide (x ∈ l))):=by
 refine pz func46 f46.eq_1 λhw X hX=>?_
 simp only [wfs,PV.wf,xaf,maxLen] at hw;refine gE2 ?_;refine zh (κ:=Nat) (λi=>⟨[(0,.p (.sl 1 (l.map (.i .i64)))),(1,.p (.i .i64 x)),(5,.p (.i .i64 i))],[],[],false⟩) (λi=>i<=l.length/\∀ y ∈ l.take i,¬y=x) (λi=>l.length - i) 0 ?_ ?_ ?_
 .exact sR
 .simp
 .intro i hi;refine gH (λhc=>?_) λhc=>?_
  .obtain ⟨y,hy⟩:=zj (i:=i) (l:=l) (by omega)
   have qe:=@hy;refine gF2 (λhc=>?_) λhc=>?_
   .subst hc;rw [decide_eq_true (xae hy)];exact .refl _
   .refine ⟨i+1,⟨by omega,λz hz=>?_⟩,by omega,by simp⟩
    rw [xaW,hy] at hz
    rcases xaS.1 hz with h|h
    .exact hi.2 z h
    .simp at h;subst h;exact hc
  .refine gE2 ?_;have e:i=l.length:=by omega
   subst e;rw [decide_eq_false (λh=>hi.2 x (by rw [xah];exact h) rfl)];exact .refl _
def ya8 (l:Lim) (d:Int) (k:Nat):List Int:=(List.range k).flatMap λ(j:Nat)=>if (l.fro+j) % l.step=0 then [1440*d+(l.fro+j)] else []
def yE (l:Lim) (d:Int) (k:Nat):ya8 l d (k+1)=ya8 l d k++if (l.fro+k) % l.step=0 then [1440*d+(l.fro+k)] else []:=by rw [ya8,zbE,<-ya8]
def ybP (l:Lim) (d:Int) (k:Nat):(ya8 l d k).length<=k:=by
 induction k with
 | zero=>simp [ya8]
 | succ k ih=>rw [yE,xad];split<;>simp<;>omega
def ydg {x s:Int} (hs:0 < s):(x+s - 1) / s=if x % s=0 then x / s else x / s+1:=by
 have h1:=Int.mul_ediv_add_emod x s;have h2:=Int.emod_nonneg x (show s≠0 by omega)
 have h3:=Int.emod_lt_of_pos x hs
 split
 .rename_i h;rw [show x+s - 1=(s - 1)+s*(x / s) by omega,Int.add_mul_ediv_left _ _ (by omega),Int.ediv_eq_zero_of_lt (by omega) (by omega)];omega
 .rename_i h;rw [show x+s - 1=(x % s - 1)+s*(x / s+1) by rw [Int.mul_add];omega,Int.add_mul_ediv_left _ _ (by omega),Int.ediv_eq_zero_of_lt (by omega) (by omega)];omega
def ycK (h:0 < l.step) (d:Int) (k:Nat):ya8 l d k=(List.range ((l.fro+k+l.step - 1) / l.step - l.from_).toNat).map (zzP l d)/\l.from_<=(l.fro+k+l.step - 1) / l.step:=by
 induction k with
 | zero=>simp [ya8,Lim.from_]
 | succ k ih=>
  obtain ⟨ih,hge⟩:=ih;have hn:(l.fro+(k+1:Nat)+l.step - 1) / l.step=(l.fro+k) / l.step+1:=by
   rw [show l.fro+((k+1:Nat):Int)+l.step - 1=l.fro+k+1*l.step by omega,Int.add_mul_ediv_right _ _ (by omega)]
  rw [hn,yE,ih];have hc:=ydg (x:=l.fro+k) h;rw [hc] at hge ⊢
  by_cases hm:(l.fro+k) % l.step=0
  .rw [if_pos hm] at hge;rw [if_pos hm,if_pos hm];have e:((l.fro+k) / l.step+1 - l.from_).toNat=((l.fro+k) / l.step - l.from_).toNat+1:=by omega
   refine ⟨?_,by omega⟩
   rw [e,zlq,zzP,xbm (by omega),show l.from_+((l.fro+k) / l.step - l.from_)=(l.fro+k) / l.step by omega]
   have:=Int.mul_ediv_add_emod (l.fro+k) l.step;rw [show l.step*((l.fro+k) / l.step)=l.fro+k by omega]
  .rw [if_neg hm] at hge;rw [if_neg hm,if_neg hm];exact ⟨by simp,hge⟩
def ycJ (h:zr l=0) (d:Int):ya8 l d (l.to - l.fro+1).toNat=zno l d (zkw l):=by
 have hl:=zaa h;rw [(ycK (l:=l) (by omega) d _).1,zno,zkw]
 have e:(l.fro+((l.to - l.fro+1).toNat:Nat)+l.step - 1) / l.step=l.to / l.step+1:=by
  rw [show l.fro+(((l.to - l.fro+1).toNat:Nat):Int)+l.step - 1=l.to+1*l.step by omega,Int.add_mul_ediv_right _ _ (by omega)]
 rw [e,show (l.to / l.step+1 - l.from_).toNat=(max 0 (l.to / l.step - l.from_+1)).toNat by omega]
def pure36 (l:Lim) (d:Int) (h:zr l=0) (h0:0<=d) (h1:d<=99999):Pure prog 221 [l.pv,.i .i64 d] (.sl 1 ((zno l d (zkw l)).map (.i .i64))):=by
 have hl:=zaa h;refine pz func221 f221.eq_1 λhw X hX=>?_
 refine gE2 ?_;refine run_ownL 100 3 1 (κ:=Nat) (λk=>⟨[(1,.p (.i .i64 d)),(2,.lp 2 0),(5,.row 100 (ya8 l d k).length),(6,.p (.i .i64 (l.fro+k)))],[(2,.box (l.cells.map .p) false),(100,.row 3 1 ((ya8 l d k).map (.i .i64)) false)],[],false⟩) (λk=>k<=(l.to - l.fro+1).toNat) (λk=>(l.to - l.fro+1).toNat - k) 0 ?_ ?_ ?_
 .refine ⟨gO ?_,gO ?_⟩<;>simp [ya8]
 .simp
 .intro k hk;have hll:=ybP l d k;have hq:(l.fro+k).tmod l.step=(l.fro+k) % l.step:=xbV (by omega)
  have hnx:=yE l d k;have qe:=aI qR @hq;repeat' first|refine gC ?_ ?_<;>intro hc<;>try contradiction|refine gG ?_|show AK _;intro J Z|refine gJ ?_|omega|exact aT
  .rw [if_pos hc] at hnx;exact ⟨k+1,by omega,by omega,⟨by rw [hnx];simp,by simp;omega⟩,by rw [hnx];simp⟩
  .rw [if_neg hc,xar] at hnx;exact ⟨k+1,by omega,by omega,⟨by rw [hnx],by simp;omega⟩,by rw [hnx]⟩
  .have e:k=(l.to - l.fro+1).toNat:=by omega
   subst e;rw [ycJ h];exact .refl _
def pure39 (l:Lim) (h:zr l=0):Pure prog 181 [l.pv] (.sl 1 ((zaq l).map (.i .i64))):=by
 have hl:=zaa h;have hpp:=zaI hl.2.2.2.2.2.2.2.1;have hdl:=zeN l.per;refine pz func181 f181.eq_1 λhw X hX=>?_
 have jA:=ybh l.per hl.2.2.2.2.2.2.2.1;refine gE2 ?_;refine run_ownL 100 3 1 (κ:=Nat) (λk=>⟨[(1,.lp 1 0),(3,.p (.sl 1 ((zaK l.per).map (.i .i64)))),(4,.row 100 (((zaK l.per).take k).flatMap λd=>zno l d (zkw l)).length),(5,.p (.i .i64 k))],[(1,.box (l.cells.map .p) false),(100,.row 3 1 ((((zaK l.per).take k).flatMap λd=>zno l d (zkw l)).map (.i .i64)) false)],[],false⟩) (λk=>k<=(zaK l.per).length) (λk=>(zaK l.per).length - k) 0 ?_ ?_ ?_
 .refine ⟨gO ?_,gO ?_⟩<;>simp
 .simp
 .intro k hk;refine gH (λhc=>?_) λhc=>?_
  .obtain ⟨d,hd⟩:=zj (i:=k) (l:=zaK l.per) (by omega)
   have hdm:=zeM (xae hd);have hnx:=yH (λd=>zno l d (zkw l)) hd
   have hbn:zkw l<=1440:=by
    have h1:0<=l.from_:=xbh (by omega) (by omega)
    have h2:l.to / l.step<=l.to:=xbr _ (by omega)
    unfold zkw;omega
   have hfl:(((zaK l.per).take k).flatMap λd=>zno l d (zkw l)).length<=((zaK l.per).take k).length*1440:=by
    exact yg λd _=>by simp only [zno,xaf,xaU];exact hbn
   have hbl:(zno l d (zkw l)).length<=1440:=by simp only [zno,xaf,xaU];exact hbn
   simp only [xan] at hfl;have qe:=aI qR (aI @hd @allI);have jA:=pure36 l d h (by omega) (by omega);refine gE2 ?_
   exact ⟨k+1,by omega,by omega,⟨by rw [hnx,xad],by simp⟩,by rw [hnx,xa6]⟩
  .refine gE2 ?_;have e:k=(zaK l.per).length:=by omega
   subst e;rw [xah,ze0 h];exact .refl _
def pure95 (l:Lim) (m:Mov):Pure prog 222 [l.pv,m.pv] (.b (zbI l m.kind m.term)):=by
 refine pz func222 f222.eq_1 λhw X hX=>?_
 exact gD2
def pure96 (l:Lim) (b x:Int) (h0:0<=b) (h1:b<=1000000000) (h2:1<=l.len) (h3:l.len<=1440):Pure prog 223 [l.pv,.i .i64 b,.i .i64 x] (.b (decide (b<=x) && decide (x < b+l.len))):=by
 refine pz func223 f223.eq_1 λhw X hX=>?_
 exact gD2
def pure37 (l:Lim) (m:List Mov) (b:Int) (h:zr l=0) (hm:m.length<=1000000) (h0:0<=b) (h1:b<=1000000000):Pure prog 182 [l.pv,.sl 7 (m.map Mov.pv),.i .i64 b] (.i .i64 (zbb l m b)):=by
 have hl:=zaa h;rw [zbJ (by omega)]
 refine pz func182 f182.eq_1 λhw X hX=>?_
 refine gE2 ?_;refine zh (κ:=Nat) (λk=>⟨[(1,.p (.sl 7 (m.map Mov.pv))),(2,.p (.i .i64 b)),(3,.lp 3 0),(7,.p (.i .i64 ((m.take k).filter (inW l b)).length)),(8,.p (.i .i64 k))],[(3,.box (l.cells.map .p) false)],[],false⟩) (λk=>k<=m.length) (λk=>m.length - k) 0 ?_ ?_ ?_
 .exact sS
 .simp
 .intro k hk;have hfl:=yav (p:=inW l b) (l:=m) (k:=k);refine gH (λhc=>?_) λhc=>?_
  .obtain ⟨x,hx⟩:=zj (i:=k) (l:=m) (by omega)
   have hnx:=yaw (p:=inW l b) hx;have qe:=aI qR @hx;have jA:=pure95 l x;have jB:=pure96 l b x.moment (by omega) (by omega) (by omega) (by omega);refine gF2 (λhc=>?_) λhc=>?_
   .have hi:inW l b x=true:=by simp only [inW,xau,decide_eq_true_eq];exact hc
    rw [hi,if_pos rfl] at hnx;exact ⟨k+1,by omega,by omega,by rw [hnx];simp,by simp⟩
   .have hi:inW l b x=false:=by
     cases hh:inW l b x
     .rfl
     .simp only [inW,xau,decide_eq_true_eq] at hh;have:=hc hh.1 hh.2.1
      omega
    rw [hi] at hnx;exact ⟨k+1,by omega,by omega,by rw [hnx];simp,by simp⟩
  .refine gE2 ?_;have e:k=m.length:=by omega
   subst e;rw [xah];exact .refl _
def yA (h:zr l=0):(zaq l).length<=577440:=by
 have hp:=zaI (zaa h).2.2.2.2.2.2.2.1;have h1:(zaq l).length<=(List.range (winN l)).length*1440:=yg λk _=>zl5 h _
 simp only [xaU] at h1;unfold winN at h1
 omega
def ych (h:zr l=0) (m:List Mov) (i:Nat):(ybB m i l).length<=577440:=by
 have h1:(ybB m i l).length<=(zaq l).length*1:=yg λb _=>by unfold yk;split<;>simp
 have:=yA h
 omega
def yci {ls:List Lim} (h:∀ l ∈ ls,zr l=0) (m:List Mov) (k:Nat):(yn ls m k).length<=k*577440:=by
 have h1:(yn ls m k).length<=(List.range k).length*577440:=yg λi _=>by
  unfold ya5
  split
  .rename_i l hl;exact ych (h l (xae hl)) m i
  .simp
 simpa using h1
def pure59 (ls:List Lim) (m:List Mov) (hn:ls.length<=32) (h:∀ l ∈ ls,zr l=0) (hm:m.length<=1000000):Pure prog 108 [.sl 11 (ls.map Lim.pv),.sl 7 (m.map Mov.pv)] (.sl 3 ((yw ls m).map Win.pv)):=by
 refine pz func108 f108.eq_1 λhw X hX=>?_
 refine gE2 ?_;refine run_ownL 100 184 3 (κ:=Nat) (λk=>⟨[(0,.p (.sl 11 (ls.map Lim.pv))),(1,.p (.sl 7 (m.map Mov.pv))),(5,.row 100 (yn ls m k).length),(6,.p (.i .i64 k))],[(100,.row 184 3 ((yn ls m k).map Win.pv) false)],[],false⟩) (λk=>k<=ls.length) (λk=>ls.length - k) 0 ?_ ?_ ?_
 .refine ⟨gO ?_,gO ?_⟩<;>simp [yn]
 .simp
 .intro k hk;refine gH (λhc=>?_) λhc=>?_
  .obtain ⟨l,hx⟩:=zj (i:=k) (l:=ls) (by omega)
   have h1:=h l (xae hx);have hi:ya5 ls m k=ybB m k l:=by rw [ya5,hx]
   have hkl:=yci h m k;have hwl:=yA h1;have qe:=aI qR @hx;have jA:=pure39 l h1;refine gE2 ?_;refine zh (κ:=Nat) (λj=>⟨[(0,.p (.sl 11 (ls.map Lim.pv))),(1,.p (.sl 7 (m.map Mov.pv))),(5,.row 100 (yn ls m k++((zaq l).take j).flatMap (yk m k l)).length),(6,.p (.i .i64 k)),(7,.p (.sl 1 ((zaq l).map (.i .i64)))),(8,.p (.i .i64 j))],[(100,.row 184 3 ((yn ls m k++((zaq l).take j).flatMap (yk m k l)).map Win.pv) false)],[],false⟩) (λj=>j<=(zaq l).length) (λj=>(zaq l).length - j) 0 ?_ ?_ ?_
   .exact sS
   .simp
   .intro j hj;refine gH (λhc=>?_) λhc=>?_
    .obtain ⟨b,hb⟩:=zj (i:=j) (l:=zaq l) (by omega)
     have hbm:=zfn h1 (xae hb);have hnx:=yH (yk m k l) hb;have hjl:(((zaq l).take j).flatMap (yk m k l)).length<=((zaq l).take j).length*1:=yg λb _=>by unfold yk;split<;>simp
     simp only [xan] at hjl;have hal:(yn ls m k++((zaq l).take j).flatMap (yk m k l)).length<=33*577440:=by rw [xad];omega
     have qe:=aI qR (aI @hx @hb);have jA:=pure37 l m b h1 hm (by omega) (by omega);refine gF2 (λhc=>?_) λhc=>?_
     .rw [show yk m k l b=[⟨k,b,zbb l m b⟩] by rw [yk,if_pos hc]] at hnx
      exact ⟨j+1,by omega,by omega,⟨by rw [hnx];simp;omega,by simp⟩,by rw [hnx];simp⟩
     .rw [show yk m k l b=[] by rw [yk,if_neg (by omega)],xar] at hnx
      exact ⟨j+1,by omega,by omega,⟨by rw [hnx],by simp⟩,by rw [hnx]⟩
    .refine gE2 ?_;have e:j=(zaq l).length:=by omega
     subst e;have e2:yn ls m (k+1)=yn ls m k++(zaq l).flatMap (yk m k l):=by rw [yn,zbE,hi,ybB,<-yn]
     exact ⟨k+1,by omega,by omega,⟨by rw [xah,e2,xad],by simp⟩,by rw [xah,e2,xa6]⟩
  .refine gE2 ?_;have e:k=ls.length:=by omega
   subst e;exact .refl _
def badLim (l:Lim):Bool:=((decide ((40:Int) < l.name.size) || decide ((40:Int) < l.kind.size)) || decide ((40:Int) < l.term.size)) || !fewB l.per 24
def yaT (h:(((40:Int) < x.name.size\/(40:Int) < x.kind.size)\/(40:Int) < x.term.size)\/fewB x.per 24=false):badLim x=true:=by
 simp only [badLim,xbg,decide_eq_true_eq,xbv];exact h
def yaU (h:(((x.name.size:Int)<=40/\(x.kind.size:Int)<=40)/\(x.term.size:Int)<=40)/\fewB x.per 24=true):badLim x=false:=by
 simp only [badLim,xbo,decide_eq_false_iff_not,xb6,Int.not_lt];exact h
def yca (x:Lim):Int:=if zr x=0 then (zkw x:Int)*(zaK x.per).length else 0
def yap (l:List Lim) (k:Nat):Int:=(l.take k).foldl (λa x=>a+yca x) 0
def longL (l:List Lim) (n:Int):Bool:=(decide (n < l.length) && decide ((l.length:Int)<=32)) || decide (34 < (l.length:Int))
def yc (l:List Lim) (n:Int):Bool:=!longL l n && ((l.all λx=>!badLim x) && decide (yap l l.length<=400))
def yB {l:List Lim} {k:Nat} (h:l[k]?=some x):yap l (k+1)=yap l k+yca x:=by
 rw [yap,xaW,h,xaP];rfl
def ybI (h:zr l=0):zkw l<=1440:=by
 have hl:=zaa h;have h1:0<=l.from_:=xbh (by omega) (by omega)
 have h2:l.to / l.step<=l.to:=xbr _ (by omega)
 unfold zkw;omega
def ybw (x:Lim):0<=yca x/\yca x<=577440:=by
 unfold yca
 split
 .rename_i h;have h1:=ybI h;have hp:=zaI (zaa h).2.2.2.2.2.2.2.1;have h2:=zeN x.per;have h3:(zaK x.per).length<=401:=by omega
  have h4:zkw x*(zaK x.per).length<=1440*401:=Nat.mul_le_mul h1 h3
  omega
 .omega
def ycE (l:List Lim) (k:Nat):0<=yap l k/\yap l k<=k*577440:=by
 induction k with
 | zero=>simp [yap]
 | succ k ih=>
  by_cases hk:k < l.length
  .rw [yB (xac hk)];have:=ybw l[k]
   omega
  .have:yap l (k+1)=yap l k:=by rw [yap,yap,xas (by omega),xas (by omega)]
   omega
def ycq (l:List Lim) (n:Int):Pure prog 72 [.sl 11 (l.map Lim.pv),.i .i64 n] (.b (yc l n)):=by
 refine pz func72 f72.eq_1 λhw X hX=>?_
 simp only [wfs,PV.wf,xaf,maxLen] at hw;refine gF2 (λhc=>?_) λhc=>?_
 .have:longL l n=true:=by simpa [longL] using hc
  rw [yc,this];exact .refl _
 have hsh:longL l n=false:=by simpa [longL] using hc
 have h34:l.length<=34:=by omega
 refine zh (κ:=Nat) (λi=>⟨[(0,.p (.sl 11 (l.map Lim.pv))),(5,.p (.i .i64 (yap l i))),(6,.p (.i .i64 i))],[],[],false⟩) (λi=>i<=l.length/\∀ x ∈ l.take i,(!badLim x)=true) (λi=>l.length - i) 0 ?_ ?_ ?_
 .simp only [qS,Nat.reduceAdd,Nat.reduceMul,Nat.reduceEqDiff,Nat.reduceLeDiff,reduceIte,reduceCtorEq,Nat.reduceBEq,Nat.reduceLT]<;>exact ⟨rfl,rfl⟩
 .simp
 .intro i hi;have hsb:=ycE l i;refine gH (λhc=>?_) λhc=>?_
  .obtain ⟨x,hx⟩:=zj (i:=i) (l:=l) (by omega)
   have hsn:=yB hx;have hlb:=ybw x
   by_cases h0:zr x=0
   .have h0':=eq_true h0;have hlx:=zaa h0;have hbn:=ybI h0;have hdn:=zeN x.per;have hpp:=zaI hlx.2.2.2.2.2.2.2.1;rw [yca,if_pos h0] at hsn hlb;have qe:=aI qR (aI @hx @h0');repeat' first|refine gC ?_ ?_<;>intro hc<;>try contradiction|refine za (ybj x) ?_|refine za (pure76 x h0) ?_|refine za (ybh x.per hlx.2.2.2.2.2.2.2.1) ?_|refine zg (λ_=>yaE x.per 24) ?_|refine gG ?_|show AK _;intro J Z|refine gJ ?_|omega|exact aT
    .rw [yc,hsh,ybJ hx (by rw [yaT hc];rfl)];exact .refl _
    .exact ⟨i+1,⟨by omega,λy hy=>by simpa using yaa (p:=λx=>!badLim x) (λy hy=>by simpa using hi.2 y hy) hx (by rw [yaU (by assumption)];rfl) y hy⟩,by omega,by rw [hsn],by simp⟩
   .have h0':=eq_false h0;rw [yca,if_neg h0] at hsn hlb;have qe:=aI qR (aI @hx @h0');repeat' first|refine gC ?_ ?_<;>intro hc<;>try contradiction|refine za (ybj x) ?_|refine zg (λ_=>yaE x.per 24) ?_|refine gG ?_|show AK _;intro J Z|refine gJ ?_|omega|exact aT
    .rw [yc,hsh,ybJ hx (by rw [yaT hc];rfl)];exact .refl _
    .exact ⟨i+1,⟨by omega,λy hy=>by simpa using yaa (p:=λx=>!badLim x) (λy hy=>by simpa using hi.2 y hy) hx (by rw [yaU (by assumption)];rfl) y hy⟩,by omega,by rw [hsn,Int.add_zero],by simp⟩
  .refine gE2 ?_;have e:i=l.length:=by omega
   subst e;rw [yc,hsh,ybK hi.2];exact .refl _
def pure21 (r:Req) (h:zbY r=0):Pure prog 138 [r.pv] (.sl 7 ((zhk r).map Mov.pv)):=by
 have hr:=zeR h;have hp:=zaI hr.1;have hdl:=zeN r.per;refine pz func138 f138.eq_1 λhw X hX=>?_
 have qe:=@qR;have jA:=ybh r.per hr.1;refine gE2 ?_;refine run_ownL 100 194 7 (κ:=Nat) (λk=>⟨[(1,.lp 1 0),(3,.p (.sl 1 ((zaK r.per).map (.i .i64)))),(4,.row 100 ((zaK r.per).take k).length),(5,.p (.i .i64 k))],[(1,.box ([.s r.name,.s r.carrier,.s r.kind,.s r.term,.s r.partner,.s r.link,.i .i64 r.per.fro,.i .i64 r.per.to,.i .i64 r.per.days,.i .i64 r.minute,.i .i64 r.seats,.i .i64 r.size,.i .i64 r.noise].map .p) false),(100,.row 194 7 ((((zaK r.per).take k).map (zj0 r)).map Mov.pv) false)],[],false⟩) (λk=>k<=(zaK r.per).length) (λk=>(zaK r.per).length - k) 0 ?_ ?_ ?_
 .refine ⟨gO ?_,gO ?_⟩<;>simp
 .simp
 .intro k hk;refine gH (λhc=>?_) λhc=>?_
  .obtain ⟨d,hx⟩:=zj (i:=k) (l:=zaK r.per) (by omega)
   have hdm:=zeM (xae hx);have hlt:=zfJ hx;have qe:=aI qR @hx;refine gE2 ?_;exact ⟨k+1,by omega,by omega,⟨by rw [xaW,hx,xad];rfl,by simp⟩,by rw [zej (zj0 r) hx];simp [zj0]⟩
  .refine gE2 ?_;have e:k=(zaK r.per).length:=by omega
   subst e;rw [xah];exact .refl _
def ycU (r:Req) (n:Int):Pure prog 139 [r.pv,.i .i64 n] (r.at n).pv:=by
 refine pz func139 f139.eq_1 λhw X hX=>?_
 have qe:=@qR;exact gD2
def yam {r:Req} (h:zbY r=0) (h0:0<=n) (h1:n<=1439):zbY (r.at n)=0:=by
 have hm:=(zeR h).2;have e:rng n 0 1439=rng r.minute 0 1439:=by rw [zdR.2 ⟨h0,h1⟩,zdR.2 hm]
 unfold zbY at h ⊢;simp only [Req.at,e];exact h
theorem yR {α β:Type} {f:α->List β}:∀ {l:List α},(∀ x ∈ l,(f x).length=c)->(l.flatMap f).length=l.length*c
 | [],_=>by simp
 | x::r,h=>by
  have h1:=h x (by simp)
  have h2:=yR (l:=r) λy hy=>h y (by simp [hy])
  simp only [xat,xad,xaz,Nat.succ_mul];omega
def yab (h:zr l=0):((zaq l).length:Int)=yca l:=by
 rw [ze0 h,yca,if_pos h,yR (c:=zkw l) (λd _=>by simp [zno])]
 rw [Int.natCast_mul,Int.mul_comm]
