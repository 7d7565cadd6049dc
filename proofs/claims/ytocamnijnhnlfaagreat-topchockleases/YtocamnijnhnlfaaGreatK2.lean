/- Contracts of functions, for the claim. No conditions. -/
import Derived.Test.YtocamnijnhnlfaaGreatK1
set_option linter.all false
set_option maxHeartbeats 8000000
set_option maxRecDepth 100000
namespace Go.Proofs.YtocamnijnhnlfaaGreat
open Go.RowKit
def AOp.isEv:AOp->Bool
 | .mv|.pick|.call _|.callv|.isnil _|.mit _=>false
 | _=>true
def evK (dr:Bool) (K:List RO->St->List Ft->Prop) (d:Option Nat) (r:List RO) (s:St) (ac:List (Nat × LObj)->List Ft) (cn:Bool):Option (Prop × Eff)->Prop
 | some (pre,eff)=>(cn=true/\pre)/\(eff.nw=true->s.look (d.getD 0)=none)/\zJ dr K r ((s.wrs eff.wr.toList).set d eff.val) (ac eff.wr.toList)
 | none=>False
def evG (dr:Bool) (K:List RO->St->List Ft->Prop) (d:Option Nat) (r:List RO) (s:St) (ac:List (Nat × LObj)->List Ft) (cn:Bool):Option Bool->Option (Prop × Eff)->Prop
 | some c,some (pre,eff)=>(c=true->cn=true/\pre)/\(eff.wr.isSome=true->c=true)/\(eff.nw=true->s.look (d.getD 0)=none)/\zJ dr K r ((s.wrs eff.wr.toList).set d (eff.val.under c)) (ac eff.wr.toList)
 | some false,none=>zJ dr K r (s.set d (.g false (.p (.b false)))) (ac [])
 | _,_=>False
def mvG (dr:Bool) (K:List RO->St->List Ft->Prop) (d:Option Nat) (r:List RO) (s:St) (ac:List Ft) (v:LV):Option Bool->Prop
 | some c=>zJ dr K r (s.set d (v.under c)) ac
 | none=>False
def pkV (dr:Bool) (K:List RO->St->List Ft->Prop) (d:Option Nat) (r:List RO) (s:St) (ac:List Ft) (ct cx cy:Bool):LV->LV->LV->Prop
 | .p (.b t),.p (.b x),.p (.b y)=>(ct=true/\(t=true->cx=true)/\(t=false->cy=true))/\zJ dr K r (s.set d (.p (.b (if t then x else y)))) ac
 | _,_,_=>False
def pkW (dr:Bool) (K:List RO->St->List Ft->Prop) (d:Option Nat) (r:List RO) (s:St) (ac:List Ft) (ct cx cy:Bool):LV->LV->LV->Option Bool->Prop
 | .p (.b t),.p (.b x),.p (.b y),some c=>(c=true->ct=true/\(t=true->cx=true)/\(t=false->cy=true))/\zJ dr K r (s.set d (.g c (.p (.b (if t then x else y))))) ac
 | _,_,_,some false=>zJ dr K r (s.set d (.g false (.p (.b false)))) ac
 | _,_,_,_=>False
def gdV (w:Bool):LV->Option Bool
 | .p (.b x)=>some (if w then x else !x)
 | .g c (.p (.b x))=>some (c && (if w then x else !x))
 | _=>none
section
variable {dr:Bool} {K:List RO->St->List Ft->Prop} {d:Option Nat} {af:List Nat} {r:List RO} {s:St} {acc ac:List Ft} {av:List (Nat × LObj)->List Ft}
theorem zEe (acc:List Ft) (s:St) (o:RO) (wr:List (Nat × LObj)):z5 false acc s o wr=acc:=rfl
theorem zEd (acc:List Ft) (s:St) (o:RO) (wr:List (Nat × LObj)):z5 true acc s o wr=zC6 s o wr::acc:=rfl
theorem zBN:zJ dr K [] s acc=K [] s acc:=rfl
theorem rs_mv (x:AOpd):zJ dr K (⟨d,.mv,[x],none,af⟩::r) s acc=zJ dr K r (s.set d (x.ev s)) (z5 dr acc s ⟨d,.mv,[x],none,af⟩ []):=by
 simp only [zJ,zef,gOf,fin,St.wrs,Option.toList,true_and]
theorem zBO (x:AOpd) (g:Nat × Bool):zJ dr K (⟨d,.mv,[x],some g,af⟩::r) s acc=mvG dr K d r s (z5 dr acc s ⟨d,.mv,[x],some g,af⟩ []) (x.ev s) (gOf s (some g)):=by
 simp only [zJ,zef,fin,mvG];generalize gOf s (some g)=o;cases o<;>simp [St.wrs]
theorem zhx {t x y:LV} {t' x' y':Bool} (h1:t.un=.p (.b t')) (h2:x.un=.p (.b x')) (h3:y.un=.p (.b y')):zlC t x y=some ((t'=true->x.cnd=true)/\(t'=false->y.cnd=true),.b (if t' then x' else y')):=by simp only [zlC,h1,h2,h3]
theorem zhy {t x y:LV} (h:∀ t' x' y',t.un=.p (.b t')->x.un=.p (.b x')->y.un=.p (.b y')->False):zlC t x y=none:=by
 unfold zlC
 split
 ·exact (h _ _ _ ‹_› ‹_› ‹_›).elim
 ·rfl
theorem zCt {ct cx cy:Bool} {t x y:LV} (h:∀ t' x' y',t=.p (.b t')->x=.p (.b x')->y=.p (.b y')->False):pkV dr K d r s ac ct cx cy t x y=False:=by
 unfold pkV
 split
 ·exact (h _ _ _ rfl rfl rfl).elim
 ·rfl
theorem zCs {ct cx cy:Bool} {t x y:LV} {g:Option Bool} (h:∀ t' x' y',t=.p (.b t')->x=.p (.b x')->y=.p (.b y')->False):pkW dr K d r s ac ct cx cy t x y g=(match g with|some false=>zJ dr K r (s.set d (.g false (.p (.b false)))) ac|_=>False):=by
 unfold pkW
 split
 ·exact (h _ _ _ rfl rfl rfl).elim
 ·rfl
 ·rename_i h1 h2;cases g with
  | none=>rfl
  | some c=>cases c with
   | true=>rfl
   | false=>exact absurd rfl (by assumption)
theorem zyJ (x y z:AOpd):zJ dr K (⟨d,.pick,[x,y,z],none,af⟩::r) s acc=pkV dr K d r s (z5 dr acc s ⟨d,.pick,[x,y,z],none,af⟩ []) (x.ev s).cnd (y.ev s).cnd (z.ev s).cnd (x.ev s).un (y.ev s).un (z.ev s).un:=by
 simp only [zJ,zef,gOf,fin]
 by_cases h:∃ t' x' y',(x.ev s).un=.p (.b t')/\(y.ev s).un=.p (.b x')/\(z.ev s).un=.p (.b y')
 ·obtain ⟨t',x',y',e1,e2,e3⟩:=h;rw [zhx e1 e2 e3,e1,e2,e3];simp only [Option.map,zdb,forall_const,St.wrs,Option.toList,pkV]
 ·rw [zhy λt' x' y' e1 e2 e3=>h ⟨t',x',y',e1,e2,e3⟩,zCt λt' x' y' e1 e2 e3=>h ⟨t',x',y',e1,e2,e3⟩]
  rfl
theorem zuc (x y z:AOpd) (g:Nat × Bool):zJ dr K (⟨d,.pick,[x,y,z],some g,af⟩::r) s acc=pkW dr K d r s (z5 dr acc s ⟨d,.pick,[x,y,z],some g,af⟩ []) (x.ev s).cnd (y.ev s).cnd (z.ev s).cnd (x.ev s).un (y.ev s).un (z.ev s).un (gOf s (some g)):=by
 simp only [zJ,zef,fin]
 by_cases h:∃ t' x' y',(x.ev s).un=.p (.b t')/\(y.ev s).un=.p (.b x')/\(z.ev s).un=.p (.b y')
 ·obtain ⟨t',x',y',e1,e2,e3⟩:=h;rw [zhx e1 e2 e3,e1,e2,e3];generalize gOf s (some g)=o;cases o<;>simp only [Option.map,zdb,St.wrs,Option.toList,pkW,LV.under]
 ·rw [zhy λt' x' y' e1 e2 e3=>h ⟨t',x',y',e1,e2,e3⟩,zCs λt' x' y' e1 e2 e3=>h ⟨t',x',y',e1,e2,e3⟩]
  generalize gOf s (some g)=o;cases o with
  | none=>rfl
  | some c=>cases c<;>simp [zdb,fin,LV.under,St.wrs]
theorem gOf_v (t:Nat) (w:Bool):gOf s (some (t,w))=gdV w (s.get t):=by
 simp only [gOf,gdV]
 rfl
theorem zmz {o:RO} (h:o.op.isEv=true) {c:Bool} (hc:gOf s o.guard=some c):zef s o=zdb o.guard c ((zb (o.dst.getD 0) s.look o.op (uns (zd s o.args))).map λr=>
    ((c=true->zQ (zd s o.args)=true/\r.1)/\(r.2.wr.isSome=true->c=true)/\(r.2.nw=true->s.look (o.dst.getD 0)=none),fin o.guard c r.2.val,r.2.wr)):=by
 simp only [zef,hc]
 split
 ·rename_i e _;rw [e] at h;cases h
 ·rename_i e _;rw [e] at h;cases h
 ·rfl
theorem zqH {o:RO} (h:o.op.isEv=true):zJ dr K (o::r) s acc=(match zef s o with
   | some (pre,v,wr)=>pre/\zJ dr K r ((s.wrs wr.toList).set o.dst v) (z5 dr acc s o wr.toList)
   | none=>False):=by
 conv=>lhs;unfold zJ
 split
 ·rename_i e;rw [e] at h;cases h
 ·rename_i e;rw [e] at h;cases h
 ·rename_i e;rw [e] at h;cases h
 ·rename_i e;rw [e] at h;cases h
 ·rfl
theorem zaL {op:AOp} (h:op.isEv=true) (args:List AOpd):zJ dr K (⟨d,op,args,none,af⟩::r) s acc=evK dr K d r s (z5 dr acc s ⟨d,op,args,none,af⟩) (zQ (zd s args)) (zb (d.getD 0) s.look op (uns (zd s args))):=by
 rw [zqH (by exact h),zmz (by exact h) (c:=true) rfl]
 dsimp only;generalize zb _ _ _ _=o;cases o with
 | none=>rfl
 | some x=>
  obtain ⟨pre,eff⟩:=x;simp only [Option.map,zdb,evK,fin,true_implies,implies_true,true_and,forall_const,and_assoc]
theorem z4 {op:AOp} (h:op.isEv=true) (args:List AOpd) (g:Nat × Bool):zJ dr K (⟨d,op,args,some g,af⟩::r) s acc=evG dr K d r s (z5 dr acc s ⟨d,op,args,some g,af⟩) (zQ (zd s args)) (gOf s (some g)) (zb (d.getD 0) s.look op (uns (zd s args))):=by
 rw [zqH (by exact h)]
 cases hg:gOf s (some g) with
 | none=>
  have:zef s ⟨d,op,args,some g,af⟩=none:=by simp only [zef,hg]
  rw [this];generalize zb _ _ _ _=o;cases o<;>rfl
 | some c=>
  rw [zmz (by exact h) (c:=c) hg]
  dsimp only;generalize zb _ _ _ _=o;cases o with
  | none=>cases c<;>simp [zdb,evG,fin,LV.under,St.wrs]
  | some x=>
   obtain ⟨pre,eff⟩:=x;simp only [Option.map,zdb,evG,fin,and_assoc]
theorem zwj (cn:Bool) (pre:Prop) (v:LV) (wr:Option (Nat × LObj)) (nw:Bool) (rd:List Nat):evK dr K d r s av cn (some (pre,⟨v,wr,nw,rd⟩))=((cn=true/\pre)/\(nw=true->s.look (d.getD 0)=none)/\zJ dr K r ((s.wrs wr.toList).set d v) (av wr.toList)):=rfl
theorem zwk (cn c:Bool) (pre:Prop) (v:LV) (wr:Option (Nat × LObj)) (nw:Bool) (rd:List Nat):evG dr K d r s av cn (some c) (some (pre,⟨v,wr,nw,rd⟩))=((c=true->cn=true/\pre)/\(wr.isSome=true->c=true)/\(nw=true->s.look (d.getD 0)=none)/\zJ dr K r ((s.wrs wr.toList).set d (v.under c)) (av wr.toList)):=rfl
theorem zwl (cn:Bool):evG dr K d r s av cn (some false) none=zJ dr K r (s.set d (.g false (.p (.b false)))) (av []):=rfl
theorem zmd (d:Nat) (look:Nat->Option LObj) (o:BinOp) (k:IntKind) (n:Int):zb d look (.bin o) [.p .any,.p (.i k n)]=none:=rfl
theorem zmc (d:Nat) (look:Nat->Option LObj) (o:BinOp) (k:IntKind) (n:Int):zb d look (.bin o) [.p (.i k n),.p .any]=none:=rfl
theorem zmb (d:Nat) (look:Nat->Option LObj) (o:BinOp) (k:IntKind) (n:Int) (b:Bool):zb d look (.bin o) [.p (.b b),.p (.i k n)]=none:=rfl
theorem zma (d:Nat) (look:Nat->Option LObj) (o:BinOp) (k:IntKind) (n:Int) (b:Bool):zb d look (.bin o) [.p (.i k n),.p (.b b)]=none:=rfl
theorem evK_p (cn:Bool) (pre:Prop) (v:PV):evK dr K d r s av cn (some (pre,.ofP v))=((cn=true/\pre)/\zJ dr K r (s.set d (.p v)) (av [])):=by simp [evK,Eff.ofP,St.wrs]
theorem evG_p (cn c:Bool) (pre:Prop) (v:PV):evG dr K d r s av cn (some c) (some (pre,.ofP v))=((c=true->cn=true/\pre)/\zJ dr K r (s.set d (.g c (.p v))) (av [])):=by simp [evG,Eff.ofP,St.wrs,LV.under]
theorem evK_v (cn:Bool) (pre:Prop) (v:LV):evK dr K d r s av cn (some (pre,.ofV v))=((cn=true/\pre)/\zJ dr K r (s.set d v) (av [])):=by simp [evK,Eff.ofV,St.wrs]
theorem evG_v (cn c:Bool) (pre:Prop) (v:LV):evG dr K d r s av cn (some c) (some (pre,.ofV v))=((c=true->cn=true/\pre)/\zJ dr K r (s.set d (v.under c)) (av [])):=by simp [evG,Eff.ofV,St.wrs]
theorem zvQ (v:LV) (c:Bool):mvG dr K d r s ac v (some c)=zJ dr K r (s.set d (v.under c)) ac:=rfl
theorem pkV_b (ct cx cy t x y:Bool):pkV dr K d r s ac ct cx cy (.p (.b t)) (.p (.b x)) (.p (.b y))=((ct=true/\(t=true->cx=true)/\(t=false->cy=true))/\zJ dr K r (s.set d (.p (.b (if t then x else y)))) ac):=rfl
theorem pkW_b (c ct cx cy t x y:Bool):pkW dr K d r s ac ct cx cy (.p (.b t)) (.p (.b x)) (.p (.b y)) (some c)=((c=true->ct=true/\(t=true->cx=true)/\(t=false->cy=true))/\zJ dr K r (s.set d (.g c (.p (.b (if t then x else y))))) ac):=rfl
theorem gdV_p (w x:Bool):gdV w (.p (.b x))=some (if w then x else !x):=rfl
theorem gdV_g (w c x:Bool):gdV w (.g c (.p (.b x)))=some (c && (if w then x else !x)):=rfl
end
section
variable {dr:Bool} {K:List RO->St->List Ft->Prop} {d:Option Nat} {af:List Nat} {r:List RO} {s:St} {acc:List Ft} (args:List AOpd) (g:Nat × Bool)
theorem zt8 (z:List PV):zJ dr K (⟨d,.alloc z,args,none,af⟩::r) s acc=evK dr K d r s (z5 dr acc s ⟨d,.alloc z,args,none,af⟩) (zQ (zd s args)) (zb (d.getD 0) s.look (.alloc z) (uns (zd s args))):=zaL rfl args
theorem zqo (z:List PV):zJ dr K (⟨d,.alloc z,args,some g,af⟩::r) s acc=evG dr K d r s (z5 dr acc s ⟨d,.alloc z,args,some g,af⟩) (zQ (zd s args)) (gOf s (some g)) (zb (d.getD 0) s.look (.alloc z) (uns (zd s args))):=z4 rfl args g
theorem zBK :zJ dr K (⟨d,.box,args,none,af⟩::r) s acc=evK dr K d r s (z5 dr acc s ⟨d,.box,args,none,af⟩) (zQ (zd s args)) (zb (d.getD 0) s.look (.box) (uns (zd s args))):=zaL rfl args
theorem zyv :zJ dr K (⟨d,.box,args,some g,af⟩::r) s acc=evG dr K d r s (z5 dr acc s ⟨d,.box,args,some g,af⟩) (zQ (zd s args)) (gOf s (some g)) (zb (d.getD 0) s.look (.box) (uns (zd s args))):=z4 rfl args g
theorem zt7 (z:List PV) (pl:List (Nat × Nat)):zJ dr K (⟨d,.build z pl,args,none,af⟩::r) s acc=evK dr K d r s (z5 dr acc s ⟨d,.build z pl,args,none,af⟩) (zQ (zd s args)) (zb (d.getD 0) s.look (.build z pl) (uns (zd s args))):=zaL rfl args
theorem zqn (z:List PV) (pl:List (Nat × Nat)):zJ dr K (⟨d,.build z pl,args,some g,af⟩::r) s acc=evG dr K d r s (z5 dr acc s ⟨d,.build z pl,args,some g,af⟩) (zQ (zd s args)) (gOf s (some g)) (zb (d.getD 0) s.look (.build z pl) (uns (zd s args))):=z4 rfl args g
theorem zqs (e sz:Nat) (z:PV) (len:Nat) (idx:List Nat):zJ dr K (⟨d,.bslice e sz z len idx,args,none,af⟩::r) s acc=evK dr K d r s (z5 dr acc s ⟨d,.bslice e sz z len idx,args,none,af⟩) (zQ (zd s args)) (zb (d.getD 0) s.look (.bslice e sz z len idx) (uns (zd s args))):=zaL rfl args
theorem zoh (e sz:Nat) (z:PV) (len:Nat) (idx:List Nat):zJ dr K (⟨d,.bslice e sz z len idx,args,some g,af⟩::r) s acc=evG dr K d r s (z5 dr acc s ⟨d,.bslice e sz z len idx,args,some g,af⟩) (zQ (zd s args)) (gOf s (some g)) (zb (d.getD 0) s.look (.bslice e sz z len idx) (uns (zd s args))):=z4 rfl args g
theorem zyB (sz:Nat) (ag:Bool):zJ dr K (⟨d,.load sz ag,args,none,af⟩::r) s acc=evK dr K d r s (z5 dr acc s ⟨d,.load sz ag,args,none,af⟩) (zQ (zd s args)) (zb (d.getD 0) s.look (.load sz ag) (uns (zd s args))):=zaL rfl args
theorem ztW (sz:Nat) (ag:Bool):zJ dr K (⟨d,.load sz ag,args,some g,af⟩::r) s acc=evG dr K d r s (z5 dr acc s ⟨d,.load sz ag,args,some g,af⟩) (zQ (zd s args)) (gOf s (some g)) (zb (d.getD 0) s.look (.load sz ag) (uns (zd s args))):=z4 rfl args g
theorem zt2 (sz:Nat):zJ dr K (⟨d,.store sz,args,none,af⟩::r) s acc=evK dr K d r s (z5 dr acc s ⟨d,.store sz,args,none,af⟩) (zQ (zd s args)) (zb (d.getD 0) s.look (.store sz) (uns (zd s args))):=zaL rfl args
theorem zqi (sz:Nat):zJ dr K (⟨d,.store sz,args,some g,af⟩::r) s acc=evG dr K d r s (z5 dr acc s ⟨d,.store sz,args,some g,af⟩) (zQ (zd s args)) (gOf s (some g)) (zb (d.getD 0) s.look (.store sz) (uns (zd s args))):=z4 rfl args g
theorem zqr :zJ dr K (⟨d,.nilchk,args,none,af⟩::r) s acc=evK dr K d r s (z5 dr acc s ⟨d,.nilchk,args,none,af⟩) (zQ (zd s args)) (zb (d.getD 0) s.look (.nilchk) (uns (zd s args))):=zaL rfl args
theorem zog :zJ dr K (⟨d,.nilchk,args,some g,af⟩::r) s acc=evG dr K d r s (z5 dr acc s ⟨d,.nilchk,args,some g,af⟩) (zQ (zd s args)) (gOf s (some g)) (zb (d.getD 0) s.look (.nilchk) (uns (zd s args))):=z4 rfl args g
theorem zBL (o:BinOp):zJ dr K (⟨d,.bin o,args,none,af⟩::r) s acc=evK dr K d r s (z5 dr acc s ⟨d,.bin o,args,none,af⟩) (zQ (zd s args)) (zb (d.getD 0) s.look (.bin o) (uns (zd s args))):=zaL rfl args
theorem zyw (o:BinOp):zJ dr K (⟨d,.bin o,args,some g,af⟩::r) s acc=evG dr K d r s (z5 dr acc s ⟨d,.bin o,args,some g,af⟩) (zQ (zd s args)) (gOf s (some g)) (zb (d.getD 0) s.look (.bin o) (uns (zd s args))):=z4 rfl args g
theorem rv_eq (n:Bool) (ks:List Nat) (ag:Bool):zJ dr K (⟨d,.eq n ks ag,args,none,af⟩::r) s acc=evK dr K d r s (z5 dr acc s ⟨d,.eq n ks ag,args,none,af⟩) (zQ (zd s args)) (zb (d.getD 0) s.look (.eq n ks ag) (uns (zd s args))):=zaL rfl args
theorem zBC (n:Bool) (ks:List Nat) (ag:Bool):zJ dr K (⟨d,.eq n ks ag,args,some g,af⟩::r) s acc=evG dr K d r s (z5 dr acc s ⟨d,.eq n ks ag,args,some g,af⟩) (zQ (zd s args)) (gOf s (some g)) (zb (d.getD 0) s.look (.eq n ks ag) (uns (zd s args))):=z4 rfl args g
theorem zBD :zJ dr K (⟨d,.not,args,none,af⟩::r) s acc=evK dr K d r s (z5 dr acc s ⟨d,.not,args,none,af⟩) (zQ (zd s args)) (zb (d.getD 0) s.look (.not) (uns (zd s args))):=zaL rfl args
theorem zyo :zJ dr K (⟨d,.not,args,some g,af⟩::r) s acc=evG dr K d r s (z5 dr acc s ⟨d,.not,args,some g,af⟩) (zQ (zd s args)) (gOf s (some g)) (zb (d.getD 0) s.look (.not) (uns (zd s args))):=z4 rfl args g
theorem zBE :zJ dr K (⟨d,.neg,args,none,af⟩::r) s acc=evK dr K d r s (z5 dr acc s ⟨d,.neg,args,none,af⟩) (zQ (zd s args)) (zb (d.getD 0) s.look (.neg) (uns (zd s args))):=zaL rfl args
theorem zyp :zJ dr K (⟨d,.neg,args,some g,af⟩::r) s acc=evG dr K d r s (z5 dr acc s ⟨d,.neg,args,some g,af⟩) (zQ (zd s args)) (gOf s (some g)) (zb (d.getD 0) s.look (.neg) (uns (zd s args))):=z4 rfl args g
theorem zBI (k:IntKind):zJ dr K (⟨d,.cvt k,args,none,af⟩::r) s acc=evK dr K d r s (z5 dr acc s ⟨d,.cvt k,args,none,af⟩) (zQ (zd s args)) (zb (d.getD 0) s.look (.cvt k) (uns (zd s args))):=zaL rfl args
theorem zyt (k:IntKind):zJ dr K (⟨d,.cvt k,args,some g,af⟩::r) s acc=evG dr K d r s (z5 dr acc s ⟨d,.cvt k,args,some g,af⟩) (zQ (zd s args)) (gOf s (some g)) (zb (d.getD 0) s.look (.cvt k) (uns (zd s args))):=z4 rfl args g
theorem zBJ :zJ dr K (⟨d,.cvs,args,none,af⟩::r) s acc=evK dr K d r s (z5 dr acc s ⟨d,.cvs,args,none,af⟩) (zQ (zd s args)) (zb (d.getD 0) s.look (.cvs) (uns (zd s args))):=zaL rfl args
theorem zyu :zJ dr K (⟨d,.cvs,args,some g,af⟩::r) s acc=evG dr K d r s (z5 dr acc s ⟨d,.cvs,args,some g,af⟩) (zQ (zd s args)) (gOf s (some g)) (zb (d.getD 0) s.look (.cvs) (uns (zd s args))):=z4 rfl args g
theorem zyA (f:Fn) (n:Nat):zJ dr K (⟨d,.mkfn f n,args,none,af⟩::r) s acc=evK dr K d r s (z5 dr acc s ⟨d,.mkfn f n,args,none,af⟩) (zQ (zd s args)) (zb (d.getD 0) s.look (.mkfn f n) (uns (zd s args))):=zaL rfl args
theorem ztV (f:Fn) (n:Nat):zJ dr K (⟨d,.mkfn f n,args,some g,af⟩::r) s acc=evG dr K d r s (z5 dr acc s ⟨d,.mkfn f n,args,some g,af⟩) (zQ (zd s args)) (gOf s (some g)) (zb (d.getD 0) s.look (.mkfn f n) (uns (zd s args))):=z4 rfl args g
theorem zqp (a b:Bool):zJ dr K (⟨d,.sliceS a b,args,none,af⟩::r) s acc=evK dr K d r s (z5 dr acc s ⟨d,.sliceS a b,args,none,af⟩) (zQ (zd s args)) (zb (d.getD 0) s.look (.sliceS a b) (uns (zd s args))):=zaL rfl args
theorem zoe (a b:Bool):zJ dr K (⟨d,.sliceS a b,args,some g,af⟩::r) s acc=evG dr K d r s (z5 dr acc s ⟨d,.sliceS a b,args,some g,af⟩) (zQ (zd s args)) (gOf s (some g)) (zb (d.getD 0) s.look (.sliceS a b) (uns (zd s args))):=z4 rfl args g
theorem zqq (sz:Nat) (a b:Bool):zJ dr K (⟨d,.sliceL sz a b,args,none,af⟩::r) s acc=evK dr K d r s (z5 dr acc s ⟨d,.sliceL sz a b,args,none,af⟩) (zQ (zd s args)) (zb (d.getD 0) s.look (.sliceL sz a b) (uns (zd s args))):=zaL rfl args
theorem zof (sz:Nat) (a b:Bool):zJ dr K (⟨d,.sliceL sz a b,args,some g,af⟩::r) s acc=evG dr K d r s (z5 dr acc s ⟨d,.sliceL sz a b,args,some g,af⟩) (zQ (zd s args)) (gOf s (some g)) (zb (d.getD 0) s.look (.sliceL sz a b) (uns (zd s args))):=z4 rfl args g
theorem zyF (off:Nat):zJ dr K (⟨d,.fadr off,args,none,af⟩::r) s acc=evK dr K d r s (z5 dr acc s ⟨d,.fadr off,args,none,af⟩) (zQ (zd s args)) (zb (d.getD 0) s.look (.fadr off) (uns (zd s args))):=zaL rfl args
theorem zt0 (off:Nat):zJ dr K (⟨d,.fadr off,args,some g,af⟩::r) s acc=evG dr K d r s (z5 dr acc s ⟨d,.fadr off,args,some g,af⟩) (zQ (zd s args)) (gOf s (some g)) (zb (d.getD 0) s.look (.fadr off) (uns (zd s args))):=z4 rfl args g
theorem zBG (off sz:Nat) (ag:Bool):zJ dr K (⟨d,.fld off sz ag,args,none,af⟩::r) s acc=evK dr K d r s (z5 dr acc s ⟨d,.fld off sz ag,args,none,af⟩) (zQ (zd s args)) (zb (d.getD 0) s.look (.fld off sz ag) (uns (zd s args))):=zaL rfl args
theorem zyr (off sz:Nat) (ag:Bool):zJ dr K (⟨d,.fld off sz ag,args,some g,af⟩::r) s acc=evG dr K d r s (z5 dr acc s ⟨d,.fld off sz ag,args,some g,af⟩) (zQ (zd s args)) (gOf s (some g)) (zb (d.getD 0) s.look (.fld off sz ag) (uns (zd s args))):=z4 rfl args g
theorem zyE (n sz:Nat) (ag:Bool):zJ dr K (⟨d,.idxA n sz ag,args,none,af⟩::r) s acc=evK dr K d r s (z5 dr acc s ⟨d,.idxA n sz ag,args,none,af⟩) (zQ (zd s args)) (zb (d.getD 0) s.look (.idxA n sz ag) (uns (zd s args))):=zaL rfl args
theorem ztZ (n sz:Nat) (ag:Bool):zJ dr K (⟨d,.idxA n sz ag,args,some g,af⟩::r) s acc=evG dr K d r s (z5 dr acc s ⟨d,.idxA n sz ag,args,some g,af⟩) (zQ (zd s args)) (gOf s (some g)) (zb (d.getD 0) s.look (.idxA n sz ag) (uns (zd s args))):=z4 rfl args g
theorem zyD :zJ dr K (⟨d,.idxS,args,none,af⟩::r) s acc=evK dr K d r s (z5 dr acc s ⟨d,.idxS,args,none,af⟩) (zQ (zd s args)) (zb (d.getD 0) s.look (.idxS) (uns (zd s args))):=zaL rfl args
theorem ztY :zJ dr K (⟨d,.idxS,args,some g,af⟩::r) s acc=evG dr K d r s (z5 dr acc s ⟨d,.idxS,args,some g,af⟩) (zQ (zd s args)) (gOf s (some g)) (zb (d.getD 0) s.look (.idxS) (uns (zd s args))):=z4 rfl args g
theorem zt5 (sz:Nat):zJ dr K (⟨d,.iadrS sz,args,none,af⟩::r) s acc=evK dr K d r s (z5 dr acc s ⟨d,.iadrS sz,args,none,af⟩) (zQ (zd s args)) (zb (d.getD 0) s.look (.iadrS sz) (uns (zd s args))):=zaL rfl args
theorem zql (sz:Nat):zJ dr K (⟨d,.iadrS sz,args,some g,af⟩::r) s acc=evG dr K d r s (z5 dr acc s ⟨d,.iadrS sz,args,some g,af⟩) (zQ (zd s args)) (gOf s (some g)) (zb (d.getD 0) s.look (.iadrS sz) (uns (zd s args))):=z4 rfl args g
theorem zt6 (n sz:Nat):zJ dr K (⟨d,.iadrA n sz,args,none,af⟩::r) s acc=evK dr K d r s (z5 dr acc s ⟨d,.iadrA n sz,args,none,af⟩) (zQ (zd s args)) (zb (d.getD 0) s.look (.iadrA n sz) (uns (zd s args))):=zaL rfl args
theorem zqm (n sz:Nat):zJ dr K (⟨d,.iadrA n sz,args,some g,af⟩::r) s acc=evG dr K d r s (z5 dr acc s ⟨d,.iadrA n sz,args,some g,af⟩) (zQ (zd s args)) (gOf s (some g)) (zb (d.getD 0) s.look (.iadrA n sz) (uns (zd s args))):=z4 rfl args g
theorem zBF (b:Bool):zJ dr K (⟨d,.len b,args,none,af⟩::r) s acc=evK dr K d r s (z5 dr acc s ⟨d,.len b,args,none,af⟩) (zQ (zd s args)) (zb (d.getD 0) s.look (.len b) (uns (zd s args))):=zaL rfl args
theorem zyq (b:Bool):zJ dr K (⟨d,.len b,args,some g,af⟩::r) s acc=evG dr K d r s (z5 dr acc s ⟨d,.len b,args,some g,af⟩) (zQ (zd s args)) (gOf s (some g)) (zb (d.getD 0) s.look (.len b) (uns (zd s args))):=z4 rfl args g
theorem zBM (e sz b:Nat):zJ dr K (⟨d,.app e sz b,args,none,af⟩::r) s acc=evK dr K d r s (z5 dr acc s ⟨d,.app e sz b,args,none,af⟩) (zQ (zd s args)) (zb (d.getD 0) s.look (.app e sz b) (uns (zd s args))):=zaL rfl args
theorem zyx (e sz b:Nat):zJ dr K (⟨d,.app e sz b,args,some g,af⟩::r) s acc=evG dr K d r s (z5 dr acc s ⟨d,.app e sz b,args,some g,af⟩) (zQ (zd s args)) (gOf s (some g)) (zb (d.getD 0) s.look (.app e sz b) (uns (zd s args))):=z4 rfl args g
theorem rv_mx :zJ dr K (⟨d,.mx,args,none,af⟩::r) s acc=evK dr K d r s (z5 dr acc s ⟨d,.mx,args,none,af⟩) (zQ (zd s args)) (zb (d.getD 0) s.look (.mx) (uns (zd s args))):=zaL rfl args
theorem zBA :zJ dr K (⟨d,.mx,args,some g,af⟩::r) s acc=evG dr K d r s (z5 dr acc s ⟨d,.mx,args,some g,af⟩) (zQ (zd s args)) (gOf s (some g)) (zb (d.getD 0) s.look (.mx) (uns (zd s args))):=z4 rfl args g
theorem rv_mn :zJ dr K (⟨d,.mn,args,none,af⟩::r) s acc=evK dr K d r s (z5 dr acc s ⟨d,.mn,args,none,af⟩) (zQ (zd s args)) (zb (d.getD 0) s.look (.mn) (uns (zd s args))):=zaL rfl args
theorem zBB :zJ dr K (⟨d,.mn,args,some g,af⟩::r) s acc=evG dr K d r s (z5 dr acc s ⟨d,.mn,args,some g,af⟩) (zQ (zd s args)) (gOf s (some g)) (zb (d.getD 0) s.look (.mn) (uns (zd s args))):=z4 rfl args g
theorem zBH (j:Nat):zJ dr K (⟨d,.ext j,args,none,af⟩::r) s acc=evK dr K d r s (z5 dr acc s ⟨d,.ext j,args,none,af⟩) (zQ (zd s args)) (zb (d.getD 0) s.look (.ext j) (uns (zd s args))):=zaL rfl args
theorem zys (j:Nat):zJ dr K (⟨d,.ext j,args,some g,af⟩::r) s acc=evG dr K d r s (z5 dr acc s ⟨d,.ext j,args,some g,af⟩) (zQ (zd s args)) (gOf s (some g)) (zb (d.getD 0) s.look (.ext j) (uns (zd s args))):=z4 rfl args g
theorem zt3 :zJ dr K (⟨d,.range,args,none,af⟩::r) s acc=evK dr K d r s (z5 dr acc s ⟨d,.range,args,none,af⟩) (zQ (zd s args)) (zb (d.getD 0) s.look (.range) (uns (zd s args))):=zaL rfl args
theorem zqj :zJ dr K (⟨d,.range,args,some g,af⟩::r) s acc=evG dr K d r s (z5 dr acc s ⟨d,.range,args,some g,af⟩) (zQ (zd s args)) (gOf s (some g)) (zb (d.getD 0) s.look (.range) (uns (zd s args))):=z4 rfl args g
theorem zyy :zJ dr K (⟨d,.next,args,none,af⟩::r) s acc=evK dr K d r s (z5 dr acc s ⟨d,.next,args,none,af⟩) (zQ (zd s args)) (zb (d.getD 0) s.look (.next) (uns (zd s args))):=zaL rfl args
theorem ztT :zJ dr K (⟨d,.next,args,some g,af⟩::r) s acc=evG dr K d r s (z5 dr acc s ⟨d,.next,args,some g,af⟩) (zQ (zd s args)) (gOf s (some g)) (zb (d.getD 0) s.look (.next) (uns (zd s args))):=z4 rfl args g
theorem zoi (e sz bytes:Nat) (z:PV):zJ dr K (⟨d,.mkslice e sz bytes z,args,none,af⟩::r) s acc=evK dr K d r s (z5 dr acc s ⟨d,.mkslice e sz bytes z,args,none,af⟩) (zQ (zd s args)) (zb (d.getD 0) s.look (.mkslice e sz bytes z) (uns (zd s args))):=zaL rfl args
theorem zlc (e sz bytes:Nat) (z:PV):zJ dr K (⟨d,.mkslice e sz bytes z,args,some g,af⟩::r) s acc=evG dr K d r s (z5 dr acc s ⟨d,.mkslice e sz bytes z,args,some g,af⟩) (zQ (zd s args)) (gOf s (some g)) (zb (d.getD 0) s.look (.mkslice e sz bytes z) (uns (zd s args))):=z4 rfl args g
theorem zyG (sz:Nat):zJ dr K (⟨d,.copy sz,args,none,af⟩::r) s acc=evK dr K d r s (z5 dr acc s ⟨d,.copy sz,args,none,af⟩) (zQ (zd s args)) (zb (d.getD 0) s.look (.copy sz) (uns (zd s args))):=zaL rfl args
theorem zt1 (sz:Nat):zJ dr K (⟨d,.copy sz,args,some g,af⟩::r) s acc=evG dr K d r s (z5 dr acc s ⟨d,.copy sz,args,some g,af⟩) (zQ (zd s args)) (gOf s (some g)) (zb (d.getD 0) s.look (.copy sz) (uns (zd s args))):=z4 rfl args g
theorem zt4 :zJ dr K (⟨d,.mkmap,args,none,af⟩::r) s acc=evK dr K d r s (z5 dr acc s ⟨d,.mkmap,args,none,af⟩) (zQ (zd s args)) (zb (d.getD 0) s.look (.mkmap) (uns (zd s args))):=zaL rfl args
theorem zqk :zJ dr K (⟨d,.mkmap,args,some g,af⟩::r) s acc=evG dr K d r s (z5 dr acc s ⟨d,.mkmap,args,some g,af⟩) (zQ (zd s args)) (gOf s (some g)) (zb (d.getD 0) s.look (.mkmap) (uns (zd s args))):=z4 rfl args g
theorem zyC (ks:List Nat) (ag:Bool) (z:PV) (ok:Bool):zJ dr K (⟨d,.lkup ks ag z ok,args,none,af⟩::r) s acc=evK dr K d r s (z5 dr acc s ⟨d,.lkup ks ag z ok,args,none,af⟩) (zQ (zd s args)) (zb (d.getD 0) s.look (.lkup ks ag z ok) (uns (zd s args))):=zaL rfl args
theorem ztX (ks:List Nat) (ag:Bool) (z:PV) (ok:Bool):zJ dr K (⟨d,.lkup ks ag z ok,args,some g,af⟩::r) s acc=evG dr K d r s (z5 dr acc s ⟨d,.lkup ks ag z ok,args,some g,af⟩) (zQ (zd s args)) (gOf s (some g)) (zb (d.getD 0) s.look (.lkup ks ag z ok) (uns (zd s args))):=z4 rfl args g
theorem zyz (ks:List Nat) (ag:Bool):zJ dr K (⟨d,.mset ks ag,args,none,af⟩::r) s acc=evK dr K d r s (z5 dr acc s ⟨d,.mset ks ag,args,none,af⟩) (zQ (zd s args)) (zb (d.getD 0) s.look (.mset ks ag) (uns (zd s args))):=zaL rfl args
theorem ztU (ks:List Nat) (ag:Bool):zJ dr K (⟨d,.mset ks ag,args,some g,af⟩::r) s acc=evG dr K d r s (z5 dr acc s ⟨d,.mset ks ag,args,some g,af⟩) (zQ (zd s args)) (gOf s (some g)) (zb (d.getD 0) s.look (.mset ks ag) (uns (zd s args))):=z4 rfl args g
end
section
variable (e:List (Nat × LV)) (o:List (Nat × LObj)) (t:List (List PV)) (b:Bool)
theorem zBz (d:Nat) (v:LV):(St.mk e o t b).set (some d) v=⟨(d,v)::e,o,t,b⟩:=rfl
theorem zBy (v:LV):(St.mk e o t b).set none v=⟨e,o,t,b⟩:=rfl
theorem zC3 (k:Nat):(St.mk e o t b).get k=zaD e k:=rfl
theorem zzL (k:Nat):(St.mk e o t b).look k=zp o k:=rfl
theorem zx9:(St.mk e o t b).wrs []=⟨e,o,t,b⟩:=rfl
theorem ztu:(St.mk e o t b).wrs (none:Option (Nat × LObj)).toList=⟨e,o,t,b⟩:=rfl
theorem ztt (k:Nat) (x:LObj):(St.mk e o t b).wrs (some (k,x)).toList=⟨e,oset o k x,t,b⟩:=rfl
theorem ztv (k:Nat) (x:LObj) (r:List (Nat × LObj)):(St.mk e o t b).wrs ((k,x)::r)=(St.mk e (oset o k x) t b).wrs r:=rfl
theorem ev_t (n:Nat):(AOpd.t n).ev (St.mk e o t b)=zaD e n:=rfl
theorem ev_c (v:PV):(AOpd.c v).ev (St.mk e o t b)=.p v:=rfl
end
def agC:Bool->LV->List (Nat × LV)->Nat->LV
 | true,v,_,_=>v
 | false,_,r,t=>zaD r t
def ogC:Bool->LObj->List (Nat × LObj)->Nat->Option LObj
 | true,v,_,_=>some v
 | false,_,r,t=>zp r t
def osC:Bool->Nat->LObj->List (Nat × LObj)->Nat->LObj->List (Nat × LObj)
 | true,k,_,r,_,v=>(k,v)::r
 | false,k,u,r,t,v=>(k,u)::oset r t v
theorem agC_t (v:LV) (r:List (Nat × LV)) (t:Nat):agC true v r t=v:=rfl
theorem agC_f (v:LV) (r:List (Nat × LV)) (t:Nat):agC false v r t=zaD r t:=rfl
theorem ogC_t (v:LObj) (r:List (Nat × LObj)) (t:Nat):ogC true v r t=some v:=rfl
theorem ogC_f (v:LObj) (r:List (Nat × LObj)) (t:Nat):ogC false v r t=zp r t:=rfl
theorem osC_t (k:Nat) (u:LObj) (r:List (Nat × LObj)) (t:Nat) (v:LObj):osC true k u r t v=(k,v)::r:=rfl
theorem osC_f (k:Nat) (u:LObj) (r:List (Nat × LObj)) (t:Nat) (v:LObj):osC false k u r t v=(k,u)::oset r t v:=rfl
theorem zEc (k:Nat) (v:LV) (r:List (Nat × LV)) (t:Nat):zaD ((k,v)::r) t=agC (t == k) v r t:=by
 by_cases h:t=k
 ·subst h;simp [zaD,agC]
 ·have:(t == k)=false:=by simpa using h
  simp [zaD,agC,h,this]
theorem zEb (t:Nat):zaD [] t=.any:=rfl
theorem zCI (k:Nat) (v:LObj) (r:List (Nat × LObj)) (t:Nat):zp ((k,v)::r) t=ogC (t == k) v r t:=by
 by_cases h:t=k
 ·subst h;simp [zp,ogC]
 ·have:(t == k)=false:=by simpa using h
  simp [zp,ogC,h,this]
theorem zCH (t:Nat):zp [] t=none:=rfl
theorem zCz (k:Nat) (u:LObj) (r:List (Nat × LObj)) (t:Nat) (v:LObj):oset ((k,u)::r) t v=osC (t == k) k u r t v:=by
 by_cases h:t=k
 ·subst h;simp [oset,osC]
 ·have:(t == k)=false:=by simpa using h
  simp [oset,osC,h,this]
theorem zCy (t:Nat) (v:LObj):oset [] t v=[(t,v)]:=rfl
theorem zyW (s:St):zd s []=[]:=rfl
theorem zup (s:St) (x:AOpd) (r:List AOpd):zd s (x::r)=x.ev s::zd s r:=rfl
theorem zyf:uns []=[]:=rfl
theorem ztx (x:LV) (r:List LV):uns (x::r)=x.un::uns r:=rfl
theorem zwL:zQ []=true:=rfl
theorem zsP (x:LV) (r:List LV):zQ (x::r)=(x.cnd && zQ r):=rfl
theorem zyK (f:Nat) (args:List AOpd) (g:Option (Nat × Bool)) (s:St) (acc:List Ft) (dr:Bool) (K:List RO->St->List Ft->Prop) (d:Option Nat) (af:List Nat) (r:List RO):zJ dr K (⟨d,.call f,args,g,af⟩::r) s acc=K (⟨d,.call f,args,g,af⟩::r) s acc:=rfl
theorem zud (ng:Bool) (args:List AOpd) (g:Option (Nat × Bool)) (s:St) (acc:List Ft) (dr:Bool) (K:List RO->St->List Ft->Prop) (d:Option Nat) (af:List Nat) (r:List RO):zJ dr K (⟨d,.isnil ng,args,g,af⟩::r) s acc=K (⟨d,.isnil ng,args,g,af⟩::r) s acc:=rfl
theorem zBP (ng:Nat) (args:List AOpd) (g:Option (Nat × Bool)) (s:St) (acc:List Ft) (dr:Bool) (K:List RO->St->List Ft->Prop) (d:Option Nat) (af:List Nat) (r:List RO):zJ dr K (⟨d,.mit ng,args,g,af⟩::r) s acc=K (⟨d,.mit ng,args,g,af⟩::r) s acc:=rfl
theorem zue (args:List AOpd) (g:Option (Nat × Bool)) (s:St) (acc:List Ft) (dr:Bool) (K:List RO->St->List Ft->Prop) (d:Option Nat) (af:List Nat) (r:List RO):zJ dr K (⟨d,.callv,args,g,af⟩::r) s acc=K (⟨d,.callv,args,g,af⟩::r) s acc:=rfl
theorem fin_n (c:Bool) (v:LV):fin none c v=v:=rfl
theorem fin_s (g:Nat × Bool) (c:Bool) (v:LV):fin (some g) c v=v.under c:=rfl
theorem pk_or {p:Prop} [Decidable p] (u:Bool):(if p then true else u)=(decide p || u):=by by_cases h:p<;>simp [h]
theorem zCr {p:Prop} [Decidable p] (u:Bool):(if p then u else false)=(decide p && u):=by by_cases h:p<;>simp [h]
theorem zyg (c:Bool) (v:PV):(LV.p v).under c=.g c (.p v):=rfl
theorem zyh (c c':Bool) (q:LV):(LV.g c' q).under c=.g (c && c') q:=rfl
theorem ztB (c:Bool) (k o:Nat):(LV.lp k o).under c=.g c (.lp k o):=rfl
theorem zpT (c:Bool) (k n:Nat):(LV.row k n).under c=.g c (.row k n):=rfl
theorem ztF (c:Bool) (k n i o:Nat):(LV.ep k n i o).under c=.g c (.ep k n i o):=rfl
theorem ztD (c:Bool) (k:Nat):(LV.it k).under c=.g c (.it k):=rfl
theorem ztC (c:Bool) (k:Nat):(LV.lm k).under c=.g c (.lm k):=rfl
theorem ztE (c:Bool) (f:Fn) (x y:List LV):(LV.fn f x y).under c=.g c (.fn f x y):=rfl
theorem zpV (c:Bool) (x:List LV):(LV.agg x).under c=.g c (.agg x):=rfl
theorem zk7 (c:Bool):LV.yield.under c=.g c .yield:=rfl
theorem zpU (c:Bool):LV.any.under c=.g c .any:=rfl
def ldLp (sz:Nat) (ag:Bool) (k off:Nat):Option LObj->Option (Prop × Eff)
 | some (.box cs _)=>some (off+sz<=cs.length/\(ag=false->sz=1),⟨if ag then packL ((cs.drop off).take sz) else (cs[off]?).getD .any,none,false,[k]⟩)
 | _=>none
def ldEp (sz:Nat) (ag:Bool) (k n i off:Nat):Option LObj->Option (Prop × Eff)
 | some (.row _ _ xs _)=>some (n=xs.length/\i < xs.length/\loadOk ((xs[i]?).getD .any) off sz ag,⟨.p (loadV ((xs[i]?).getD .any) off sz ag),none,false,[k]⟩)
 | _=>none
def stLp (look:Nat->Option LObj) (sz k off:Nat) (x:LV):Option LObj->Option (Prop × Eff)
 | some (.box cs false)=>some (off+sz<=cs.length/\x.cells.length=sz/\oneL look x.cells,⟨.any,some (k,.box (updL cs off x.cells) false),false,[k]⟩)
 | _=>none
def stEp (look:Nat->Option LObj) (sz k n i off:Nat) (v:PV):Option LObj->Option (Prop × Eff)
 | some (.row e esz xs false)=>some (n=xs.length/\i < xs.length/\v.cells.length=sz/\off+sz<=esz/\oneL look (v.cells.map .p),
    ⟨.any,some (k,.row e esz (xs.set i (if off=0/\sz=esz then v else .agg (updL ((xs[i]?).getD .any).cells off v.cells))) false),false,[k]⟩)
 | _=>none
def faEp (off k n i o:Nat):Option LObj->Option (Prop × Eff)
 | some (.row _ _ xs _)=>some (n=xs.length,.ofV (.ep k n i (o+off)))
 | _=>none
def iaRow (sz q n:Nat) (j:Int):Option LObj->Option (Prop × Eff)
 | some (.row _ sz' xs _)=>some (sz=sz'/\n=xs.length/\0<=j/\j < xs.length,⟨.ep q n j.toNat 0,none,false,[q]⟩)
 | _=>none
def lenK:Option (Prop × List PV × Nat × List Nat)->Option (Prop × Eff)
 | some (p,xs,_,rd)=>some (p,⟨.p (.i .i64 xs.length),none,false,rd⟩)
 | none=>none
def apN (d e sz bytes:Nat):Option (Prop × List PV × Nat × List Nat)->Option (Prop × Eff)
 | some (p,ys,s',rd)=>some (p/\(ys=[]\/s'=sz)/\oneAll ys=true/\ys.length*bytes<=140737488355328,⟨.row d ys.length,some (d,.row e sz ys false),true,rd⟩)
 | none=>none
def apR (e sz bytes k n:Nat):Option LObj->Option (Prop × List PV × Nat × List Nat)->Option (Prop × Eff)
 | some (.row e' s2 xs false),some (p,ys,s',rd)=>some (e=e'/\sz=s2/\n=xs.length/\p/\(ys=[]\/s'=sz)/\oneAll ys=true/\(xs.length+ys.length)*bytes<=140737488355328,⟨.row k (xs++ys).length,some (k,.row e sz (xs++ys) false),false,k::rd⟩)
 | _,_=>none
def elRow (k n:Nat):Option LObj->Option (Prop × List PV × Nat × List Nat)
 | some (.row _ sz xs _)=>some (n=xs.length,xs,sz,[k])
 | _=>none
def bdK (look:Nat->Option LObj) (z:List PV) (pl:List (Nat × Nat)) (ins:List LV):Option (List PV)->Option (Prop × Eff)
 | some vs=>some (fillOk z.length pl vs,.ofP (.agg (fillP z pl vs)))
 | none=>some (fillLOk look z.length pl ins,.ofV (.agg (zd9 (z.map .p) pl ins)))
theorem zC7 (cs vs:List LV):zd9 cs [] vs=cs:=by cases vs<;>rfl
theorem zz8 (cs:List LV) (off sz:Nat) (pl:List (Nat × Nat)) (v:LV) (vs:List LV):zd9 cs ((off,sz)::pl) (v::vs)=zd9 (cs.take off++v.cells++cs.drop (off+v.cells.length)) pl vs:=rfl
def bsK (d e sz:Nat) (z:PV) (len:Nat) (idx:List Nat):Option (List PV)->Option (Prop × Eff)
 | some vs=>some (fillEOk len sz idx vs,⟨.row d len,some (d,.row e sz (fillE (List.replicate len z) idx vs) false),true,[]⟩)
 | none=>none
def mfK (f:Fn) (a b:List LV):Option (List PV)->Option (List PV)->Option (Prop × Eff)
 | some x,some y=>some (True,.ofP (.fn f x y))
 | _,_=>some (True,.ofV (.fn f a b))
def apC (v:PV):Option (List PV)->Option (List PV)
 | some vs=>some (v::vs)
 | none=>none
def nxK (k:Nat):Option LObj->Option (Prop × Eff)
 | some (.sit s pos)=>some (s.size<=maxLen,⟨.p (nextV s pos),some (k,.sit s (nextP s pos)),false,[k]⟩)
 | _=>none
def cpR (sz k n:Nat):Option LObj->Option (Prop × List PV × Nat × List Nat)->Option (Prop × Eff)
 | some (.row e s2 xs false),some (p,ys,s',rd)=>some (sz=s2/\n=xs.length/\p/\(ys=[]\/s'=sz)/\oneAll ys=true,⟨.p (.i .i64 (min ys.length xs.length:Nat)),some (k,.row e sz (ys.take xs.length++xs.drop ys.length) false),false,k::rd⟩)
 | _,_=>none
def lkK (ks:List Nat) (ag:Bool) (z:PV) (ok:Bool) (key:PV):Option (List (PV × PV) × List Nat)->Option (Prop × Eff)
 | some (es,rd)=>some (keyOk ks ag key key/\keysOk ks ag key es,⟨.p (if ok then .tup [(mget key es).getD z,.b (mget key es).isSome] else (mget key es).getD z),none,false,rd⟩)
 | none=>none
def moK (k:Nat):Option LObj->Option (List (PV × PV) × List Nat)
 | some (.mp es _)=>some (es,[k])
 | _=>none
def msK (ks:List Nat) (ag:Bool) (k:Nat) (key v:PV):Option LObj->Option (Prop × Eff)
 | some (.mp es false)=>some (keyOk ks ag key key/\keysOk ks ag key es,⟨.any,some (k,.mp (mput key v es) false),false,[k]⟩)
 | _=>none
section
variable (d:Nat) (look:Nat->Option LObj)
theorem zwt (z:List PV):zb d look (.alloc z) []=some (True,⟨.lp d 0,some (d,.box (z.map .p) false),true,[]⟩):=rfl
theorem zDx (x:LV):zb d look .box [x]=some (x.known look,⟨.lp d 0,some (d,.box x.cells false),true,[]⟩):=rfl
theorem zws (z:List PV) (pl:List (Nat × Nat)) (ins:List LV):zb d look (.build z pl) ins=bdK look z pl ins (zft ins):=by
 simp only [zb];cases zft ins<;>rfl
theorem zsu (e sz:Nat) (z:PV) (len:Nat) (idx:List Nat) (ins:List LV):zb d look (.bslice e sz z len idx) ins=bsK d e sz z len idx (zft ins):=by
 simp only [zb];cases zft ins<;>rfl
theorem zpb (sz:Nat) (ag:Bool) (v:PV) (off:Nat):zb d look (.load sz ag) [.p (.ip v off)]=some (loadOk v off sz ag,.ofP (loadV v off sz ag)):=rfl
theorem zpa (sz:Nat) (ag:Bool) (k off:Nat):zb d look (.load sz ag) [.lp k off]=ldLp sz ag k off (look k):=by
 simp only [zb];generalize look k=q;cases q with
 | none=>rfl
 | some ob=>cases ob<;>rfl
theorem zpc (sz:Nat) (ag:Bool) (k n i off:Nat):zb d look (.load sz ag) [.ep k n i off]=ldEp sz ag k n i off (look k):=by
 simp only [zb];generalize look k=q;cases q with
 | none=>rfl
 | some ob=>cases ob<;>rfl
theorem zl5 (sz k off:Nat) (x:LV):zb d look (.store sz) [.lp k off,x]=stLp look sz k off x (look k):=by
 simp only [zb];cases look k with
 | none=>rfl
 | some ob=>cases ob with
  | box cs fz=>cases fz<;>rfl
  | _=>rfl
theorem zl6 (sz k n i off:Nat) (v:PV):zb d look (.store sz) [.ep k n i off,.p v]=stEp look sz k n i off v (look k):=by
 simp only [zb];cases look k with
 | none=>rfl
 | some ob=>cases ob with
  | row e es xs fz=>cases fz<;>rfl
  | _=>rfl
theorem zsp (v:PV) (off:Nat):zb d look .nilchk [.p (.ip v off)]=some (True,.ofP (.ip v off)):=rfl
theorem zso (k off:Nat):zb d look .nilchk [.lp k off]=some (True,.ofV (.lp k off)):=rfl
theorem zsr (k n i o:Nat):zb d look .nilchk [.ep k n i o]=faEp 0 k n i o (look k):=by
 simp only [zb];generalize look k=q;cases q with
 | none=>rfl
 | some ob=>cases ob<;>rfl
theorem zo8 (f:FuncId) (a b:List PV):zb d look .nilchk [.p (.fn (.func f) a b)]=some (True,.ofP (.fn (.func f) a b)):=rfl
theorem zsq (f:FuncId) (a b:List LV):zb d look .nilchk [.fn (.func f) a b]=some (True,.ofV (.fn (.func f) a b)):=rfl
theorem zDh (k k':IntKind) (x y:Int):zb d look (.bin .shr) [.p (.i k x),.p (.i k' y)]=some (0<=y,.ofP (.i k (x.fdiv (2 ^ (min y.toNat k.bits))))):=rfl
theorem zDi (k k':IntKind) (x y:Int):zb d look (.bin .shl) [.p (.i k x),.p (.i k' y)]=some (0<=y,.ofP (.i k (k.wrap (x*2 ^ (min y.toNat k.bits))))):=rfl
theorem zDz (k k':IntKind) (x y:Int):zb d look (.bin .add) [.p (.i k x),.p (.i k' y)]=some (k=k',.ofP (.i k (k.wrap (x+y)))):=rfl
theorem zDg (k k':IntKind) (x y:Int):zb d look (.bin .sub) [.p (.i k x),.p (.i k' y)]=some (k=k',.ofP (.i k (k.wrap (x - y)))):=rfl
theorem zDo (k k':IntKind) (x y:Int):zb d look (.bin .mul) [.p (.i k x),.p (.i k' y)]=some (k=k',.ofP (.i k (k.wrap (x*y)))):=rfl
theorem zDk (k k':IntKind) (x y:Int):zb d look (.bin .quo) [.p (.i k x),.p (.i k' y)]=some (k=k'/\y≠0,.ofP (.i k (k.wrap (x.tdiv y)))):=rfl
theorem zDj (k k':IntKind) (x y:Int):zb d look (.bin .rem) [.p (.i k x),.p (.i k' y)]=some (k=k'/\y≠0,.ofP (.i k (x.tmod y))):=rfl
theorem zDy (k k':IntKind) (x y:Int):zb d look (.bin .and) [.p (.i k x),.p (.i k' y)]=some (k=k',.ofP (.i k (bits .and k x y))):=rfl
theorem eo_or (k k':IntKind) (x y:Int):zb d look (.bin .or) [.p (.i k x),.p (.i k' y)]=some (k=k',.ofP (.i k (bits .or k x y))):=rfl
theorem zDu (k k':IntKind) (x y:Int):zb d look (.bin .eql) [.p (.i k x),.p (.i k' y)]=some (k=k',.ofP (.b (decide (x=y)))):=rfl
theorem zDm (k k':IntKind) (x y:Int):zb d look (.bin .neq) [.p (.i k x),.p (.i k' y)]=some (k=k',.ofP (.b (!decide (x=y)))):=rfl
theorem zDp (k k':IntKind) (x y:Int):zb d look (.bin .lss) [.p (.i k x),.p (.i k' y)]=some (k=k',.ofP (.b (decide (x < y)))):=rfl
theorem zDq (k k':IntKind) (x y:Int):zb d look (.bin .leq) [.p (.i k x),.p (.i k' y)]=some (k=k',.ofP (.b (decide (x<=y)))):=rfl
theorem zDr (k k':IntKind) (x y:Int):zb d look (.bin .gtr) [.p (.i k x),.p (.i k' y)]=some (k=k',.ofP (.b (decide (y < x)))):=rfl
theorem zDs (k k':IntKind) (x y:Int):zb d look (.bin .geq) [.p (.i k x),.p (.i k' y)]=some (k=k',.ofP (.b (decide (y<=x)))):=rfl
theorem zAj (x y:ByteArray):zb d look (.bin .add) [.p (.s x),.p (.s y)]=some (x.size+y.size<=maxLen,.ofP (.s (x++y))):=rfl
theorem zAi (x y:ByteArray):zb d look (.bin .eql) [.p (.s x),.p (.s y)]=some (True,.ofP (.b (decide (x=y)))):=rfl
theorem zAd (x y:ByteArray):zb d look (.bin .neq) [.p (.s x),.p (.s y)]=some (True,.ofP (.b (!decide (x=y)))):=rfl
theorem zAe (x y:ByteArray):zb d look (.bin .lss) [.p (.s x),.p (.s y)]=some (True,.ofP (.b (Op.bytesLess x.toList y.toList))):=rfl
theorem zAg (x y:ByteArray):zb d look (.bin .gtr) [.p (.s x),.p (.s y)]=some (True,.ofP (.b (!(Op.bytesLess x.toList y.toList || decide (x=y))))):=rfl
theorem zAf (x y:ByteArray):zb d look (.bin .leq) [.p (.s x),.p (.s y)]=some (True,.ofP (.b (Op.bytesLess x.toList y.toList || decide (x=y)))):=rfl
theorem zAh (x y:ByteArray):zb d look (.bin .geq) [.p (.s x),.p (.s y)]=some (True,.ofP (.b (!Op.bytesLess x.toList y.toList))):=rfl
theorem eo_eq (ks:List Nat) (ag:Bool) (x y:PV):zb d look (.eq false ks ag) [.p x,.p y]=some (eqCellsOk ks x.cells y.cells/\x.isAgg=ag/\y.isAgg=ag,.ofP (.b (eqCells x.cells y.cells))):=rfl
theorem eo_ne (ks:List Nat) (ag:Bool) (x y:PV):zb d look (.eq true ks ag) [.p x,.p y]=some (eqCellsOk ks x.cells y.cells/\x.isAgg=ag/\y.isAgg=ag,.ofP (.b (!eqCells x.cells y.cells))):=rfl
theorem zDl (x:Bool):zb d look .not [.p (.b x)]=some (True,.ofP (.b (!x))):=rfl
theorem zDn (k:IntKind) (x:Int):zb d look .neg [.p (.i k x)]=some (True,.ofP (.i k (k.wrap (0 - x)))):=rfl
theorem zDv (k k':IntKind) (x:Int):zb d look (.cvt k) [.p (.i k' x)]=some (True,.ofP (.i k (k.wrap x))):=rfl
theorem zDw (x:ByteArray):zb d look .cvs [.p (.s x)]=some (True,.ofP (.s x)):=rfl
theorem zAs (f:Fn) (n:Nat) (ins:List LV):zb d look (.mkfn f n) ins=mfK f (ins.take n) (ins.drop n) (zft (ins.take n)) (zft (ins.drop n)):=by
 simp only [zb];cases zft (ins.take n)<;>cases zft (ins.drop n)<;>rfl
theorem zAm (x:ByteArray) (k:IntKind) (h:Int):zb d look (.sliceS false true) [.p (.s x),.p (.i k h)]=some (0<=h/\h<=x.size,.ofP (.s (x.extract 0 h.toNat))):=rfl
theorem zAl (x:ByteArray) (k:IntKind) (l:Int):zb d look (.sliceS true false) [.p (.s x),.p (.i k l)]=some (0<=l/\l<=x.size,.ofP (.s (x.extract l.toNat x.size))):=rfl
theorem zAk (x:ByteArray) (k k':IntKind) (l h:Int):zb d look (.sliceS true true) [.p (.s x),.p (.i k l),.p (.i k' h)]=some (0<=l/\l<=h/\h<=x.size,.ofP (.s (x.extract l.toNat h.toNat))):=rfl
theorem zAp (sz s':Nat) (xs:List PV) (k:IntKind) (h:Int):zb d look (.sliceL sz false true) [.p (.sl s' xs),.p (.i k h)]=some (sz=s'/\0<=h/\h<=xs.length,.ofP (.sl sz (xs.take h.toNat))):=rfl
theorem zAo (sz s':Nat) (xs:List PV) (k:IntKind) (l:Int):zb d look (.sliceL sz true false) [.p (.sl s' xs),.p (.i k l)]=some (sz=s'/\0<=l/\l<=xs.length,.ofP (.sl sz (xs.drop l.toNat))):=rfl
theorem zAn (sz s':Nat) (xs:List PV) (k k':IntKind) (l h:Int):zb d look (.sliceL sz true true) [.p (.sl s' xs),.p (.i k l),.p (.i k' h)]=some (sz=s'/\0<=l/\l<=h/\h<=xs.length,.ofP (.sl sz ((xs.take h.toNat).drop l.toNat))):=rfl
theorem zpe (off:Nat) (v:PV) (o:Nat):zb d look (.fadr off) [.p (.ip v o)]=some (True,.ofP (.ip v (o+off))):=rfl
theorem zpd (off k o:Nat):zb d look (.fadr off) [.lp k o]=some (True,.ofV (.lp k (o+off))):=rfl
theorem zpf (off k n i o:Nat):zb d look (.fadr off) [.ep k n i o]=faEp off k n i o (look k):=by
 simp only [zb];generalize look k=q;cases q with
 | none=>rfl
 | some ob=>cases ob<;>rfl
theorem zwq (off sz:Nat) (v:PV):zb d look (.fld off sz true) [.p v]=some (off+sz<=v.cells.length/\(true=false->sz=1)/\v.isAgg=true,.ofP (.agg ((v.cells.drop off).take sz))):=rfl
theorem zwr (off sz:Nat) (v:PV):zb d look (.fld off sz false) [.p v]=some (off+sz<=v.cells.length/\(false=false->sz=1)/\v.isAgg=true,.ofP ((v.cells[off]?).getD .any)):=rfl
theorem zss (n sz:Nat) (v:PV) (k:IntKind) (j:Int):zb d look (.idxA n sz true) [.p v,.p (.i k j)]=some (0<=j/\j < n/\v.cells.length=n*sz/\(true=false->sz=1)/\v.isAgg=true,.ofP (.agg ((v.cells.drop (j.toNat*sz)).take sz))):=rfl
theorem zst (n sz:Nat) (v:PV) (k:IntKind) (j:Int):zb d look (.idxA n sz false) [.p v,.p (.i k j)]=some (0<=j/\j < n/\v.cells.length=n*sz/\(false=false->sz=1)/\v.isAgg=true,.ofP ((v.cells[j.toNat*sz]?).getD .any)):=rfl
theorem zAz (x:ByteArray) (k:IntKind) (j:Int):zb d look .idxS [.p (.s x),.p (.i k j)]=some (0<=j/\j < x.size,.ofP (.i .u8 ((x[j.toNat]?).getD 0).toNat)):=rfl
theorem zl7 (sz s':Nat) (xs:List PV) (k:IntKind) (j:Int):zb d look (.iadrS sz) [.p (.sl s' xs),.p (.i k j)]=some (sz=s'/\0<=j/\j < xs.length,.ofP (.ip ((xs[j.toNat]?).getD .any) 0)):=rfl
theorem zks (sz q n:Nat) (k:IntKind) (j:Int):zb d look (.iadrS sz) [.row q n,.p (.i k j)]=iaRow sz q n j (look q):=by
 simp only [zb];cases look q with
 | none=>rfl
 | some ob=>cases ob<;>rfl
theorem zl9 (n sz:Nat) (v:PV) (o:Nat) (k:IntKind) (j:Int):zb d look (.iadrA n sz) [.p (.ip v o),.p (.i k j)]=some (0<=j/\j < n,.ofP (.ip v (o+j.toNat*sz))):=rfl
theorem zl8 (n sz q o:Nat) (k:IntKind) (j:Int):zb d look (.iadrA n sz) [.lp q o,.p (.i k j)]=some (0<=j/\j < n,.ofV (.lp q (o+j.toNat*sz))):=rfl
theorem zAu (x:ByteArray):zb d look (.len true) [.p (.s x)]=some (True,.ofP (.i .i64 x.size)):=rfl
theorem zAv (k n:Nat):zb d look (.len false) [.row k n]=lenK (zaN look (.row k n)):=by
 simp only [zb];generalize zaN _ _=q;cases q<;>rfl
theorem zAw (sz:Nat) (xs:List PV):zb d look (.len false) [.p (.sl sz xs)]=some (True,.ofP (.i .i64 xs.length)):=rfl
theorem zAy (a0:Option Addr) (n c0:Nat):zb d look (.len false) [.p (.rs a0 n c0)]=some ((n:Int)<=9223372036854775807,.ofP (.i .i64 n)):=rfl
theorem zAA (j:Nat) (vs:List LV):zb d look (.ext j) [.tup vs]=some (j < vs.length,.ofV ((vs[j]?).getD .any)):=rfl
theorem zAx:zb d look (.len false) [.p .nilsl]=some (True,.ofP (.i .i64 (0:Nat))):=rfl
theorem zAD (e sz bytes:Nat) (y:LV):zb d look (.app e sz bytes) [.p .nilsl,y]=apN d e sz bytes (zaN look y):=by
 simp only [zb];generalize zaN _ _=q;cases q<;>rfl
theorem zAC (e sz bytes k n:Nat) (y:LV):zb d look (.app e sz bytes) [.row k n,y]=apR e sz bytes k n (look k) (zaN look y):=by
 simp only [zb];generalize zaN look y=q;cases look k with
 | none=>cases q<;>rfl
 | some ob=>cases ob with
  | row e' es xs fz=>cases fz<;>cases q<;>rfl
  | _=>cases q<;>rfl
theorem eo_mx (k k':IntKind) (x y:Int):zb d look .mx [.p (.i k x),.p (.i k' y)]=some (k=k',.ofP (.i k (max x y))):=rfl
theorem eo_mn (k k':IntKind) (x y:Int):zb d look .mn [.p (.i k x),.p (.i k' y)]=some (k=k',.ofP (.i k (min x y))):=rfl
theorem zDt (j:Nat) (vs:List PV):zb d look (.ext j) [.p (.tup vs)]=some (j < vs.length,.ofP ((vs[j]?).getD .any)):=rfl
theorem zwo (x:ByteArray):zb d look .range [.p (.s x)]=some (True,⟨.it d,some (d,.sit x 0),true,[]⟩):=rfl
theorem zAq (k:Nat):zb d look .next [.it k]=nxK k (look k):=by
 simp only [zb];generalize look k=q;cases q with
 | none=>rfl
 | some ob=>cases ob<;>rfl
theorem zo9 (e sz bytes:Nat) (z:PV) (k1 k2:IntKind) (n c:Int):zb d look (.mkslice e sz bytes z) [.p (.i k1 n),.p (.i k2 c)]=some (0<=n/\(n=c\/(n=0/\0<=c))/\c.toNat*bytes<=140737488355328,⟨.row d n.toNat,some (d,.row e sz (List.replicate n.toNat z) false),true,[]⟩):=rfl
theorem zAB (sz k n:Nat) (y:LV):zb d look (.copy sz) [.row k n,y]=cpR sz k n (look k) (zaN look y):=by
 simp only [zb];generalize look k=q;generalize zaN look y=r;cases q with
 | none=>cases r<;>rfl
 | some ob=>cases ob with
  | row e es xs fz=>cases fz<;>cases r<;>rfl
  | _=>cases r<;>rfl
theorem zwp:zb d look .mkmap []=some (True,⟨.lm d,some (d,.mp [] false),true,[]⟩):=rfl
theorem zAt (ks:List Nat) (ag:Bool) (z:PV) (ok:Bool) (m:LV) (key:PV):zb d look (.lkup ks ag z ok) [m,.p key]=lkK ks ag z ok key (zgn look m):=by
 simp only [zb];generalize zgn look m=r;cases r<;>rfl
theorem mo_p (es:List (PV × PV)):zgn look (.p (.mp es))=some (es,[]):=rfl
theorem mo_lm (k:Nat):zgn look (.lm k)=moK k (look k):=by
 simp only [zgn];generalize look k=q;cases q with
 | none=>rfl
 | some ob=>cases ob<;>rfl
theorem zAr (ks:List Nat) (ag:Bool) (k:Nat) (key v:PV):zb d look (.mset ks ag) [.lm k,.p key,.p v]=msK ks ag k key v (look k):=by
 simp only [zb];generalize look k=q;cases q with
 | none=>rfl
 | some ob=>cases ob with
  | mp es fz=>cases fz<;>rfl
  | _=>rfl
theorem zDB:zaN look (.p .nilsl)=some (True,[],0,[]):=rfl
theorem el_sl (sz:Nat) (xs:List PV):zaN look (.p (.sl sz xs))=some (True,xs,sz,[]):=rfl
theorem zDA (k n:Nat):zaN look (.row k n)=elRow k n (look k):=by
 simp only [zaN];cases look k with
 | none=>rfl
 | some ob=>cases ob<;>rfl
end
theorem zwX:zft []=some []:=rfl
theorem zs5 (v:PV) (r:List LV):zft (.p v::r)=apC v (zft r):=by
 simp only [zft];cases zft r<;>rfl
def rdK (look:Nat->Option LObj):List LV->List Nat
 | []=>[]
 | q::r=>zW look 5 q++rdK look r
theorem zxo (look:Nat->Option LObj):∀ l:List LV,l.flatMap (zW look 5)=rdK look l
 | []=>rfl
 | q::r=>by rw [xaH,zxo look r];rfl
theorem zyU (look:Nat->Option LObj):rdK look []=[]:=rfl
theorem rdK_p (look:Nat->Option LObj) (v:PV) (r:List LV):rdK look (.p v::r)=rdK look r:=rfl
theorem rdK_g (look:Nat->Option LObj) (c:Bool) (q:LV) (r:List LV):rdK look (.g c q::r)=rdK look r:=rfl
theorem zyT (look:Nat->Option LObj) (k n:Nat) (r:List LV):rdK look (.row k n::r)=k::rdK look r:=rfl
theorem zBW (look:Nat->Option LObj) (k n i o:Nat) (r:List LV):rdK look (.ep k n i o::r)=k::rdK look r:=rfl
theorem zBU (look:Nat->Option LObj) (k:Nat) (r:List LV):rdK look (.it k::r)=k::rdK look r:=rfl
def lpK (look:Nat->Option LObj):Option LObj->List Nat
 | some (.box cs _)=>cs.flatMap (zW look 4)
 | _=>[]
theorem zBS (look:Nat->Option LObj) (k o:Nat) (r:List LV):rdK look (.lp k o::r)=k::(lpK look (look k)++rdK look r):=by
 simp only [rdK,zW,lpK];cases look k with
 | none=>rfl
 | some ob=>cases ob<;>rfl
theorem zBT (look:Nat->Option LObj) (k:Nat) (r:List LV):rdK look (.lm k::r)=k::rdK look r:=rfl
theorem zBV (look:Nat->Option LObj) (f:Fn) (a b r:List LV):rdK look (.fn f a b::r)=a.flatMap (zW look 4)++b.flatMap (zW look 4)++rdK look r:=rfl
theorem zyV (look:Nat->Option LObj) (cs r:List LV):rdK look (.agg cs::r)=cs.flatMap (zW look 4)++rdK look r:=rfl
theorem zyS (look:Nat->Option LObj) (cs r:List LV):rdK look (.tup cs::r)=cs.flatMap (zW look 4)++rdK look r:=rfl
theorem dk_p (look:Nat->Option LObj) (m:Nat) (v:PV):zW look m (.p v)=[]:=by cases m<;>rfl
theorem zDG (look:Nat->Option LObj) (m:Nat):zW look m .any=[]:=by cases m<;>rfl
theorem zww (look:Nat->Option LObj) (m:Nat):zW look m .yield=[]:=by cases m<;>rfl
theorem zAE (look:Nat->Option LObj) (k n:Nat):zW look 4 (.row k n)=[k]:=rfl
theorem zDE (look:Nat->Option LObj) (k:Nat):zW look 4 (.lm k)=[k]:=rfl
theorem zDF (look:Nat->Option LObj) (k:Nat):zW look 4 (.it k)=[k]:=rfl
theorem zqS (look:Nat->Option LObj) (r:List LV):rdK look (.yield::r)=rdK look r:=rfl
def rdM:AOp->List Nat->List Nat
 | .mv,_|.pick,_=>[]
 | _,l=>l
theorem zC5 (s:St) (d:Option Nat) (op:AOp) (args:List AOpd) (gd:Option (Nat × Bool)) (af:List Nat) (wr:List (Nat × LObj)):zC6 s ⟨d,op,args,gd,af⟩ wr=⟨d.toList,rdT ⟨d,op,args,gd,af⟩,d.getD 0::wr.map (·.1),rdM op (rdK s.look (uns (zd s args))),af,false⟩:=by
 cases op<;>simp only [zC6,rdO,zxo,rdM]
theorem zyI {G:Cfg} {s:St} {Q:zZ} {l:List RO} (h:∀ K:St->List Ft->Prop,(∀ s acc,Q .normal s->K s acc)->zJ false (zj G.P G.ts false K) l s []):Run G (.ops false l) s Q:=zeQ (zB (h _ λ_ _ h=>h))
section
variable {look look':Nat->Option LObj} {d:Nat}
theorem zDD {k off:Nat}:k ∈ zW look 5 (.lp k off):=xar
theorem zsz {k n:Nat}:k ∈ zW look 5 (.row k n):=xar
theorem zwx {k n i off:Nat}:k ∈ zW look 5 (.ep k n i off):=xar
theorem zgt {q:LV} (h:∀ k ∈ zW look 5 q,look' k=look k):q.known look'=q.known look:=by
 cases q<;>try rfl
 rename_i k n;have:=h k xar;simp only [LV.known,this]
theorem zhC:∀ {l:List LV},(∀ k ∈ l.flatMap (zW look 4),look' k=look k)->oneL look' l=oneL look l
 | [],_=>rfl
 | q::r,h=>by
  have ih:oneL look' r=oneL look r:=zhC λk hk=>h k (by rw [xaH];exact xa0 _ hk)
  cases q<;>simp only [oneL,ih]
  rename_i k n;have:=h k (by rw [xaH];exact xa9 _ xar)
  rw [this]
theorem zbZ {q:LV} (h:∀ k ∈ zW look 5 q,look' k=look k):zaN look' q=zaN look q:=by
 cases q with
 | p v=>cases v<;>rfl
 | row k n=>simp only [zaN,h k xar]
 | _=>rfl
theorem zgY {q:LV} (h:∀ k ∈ zW look 5 q,look' k=look k):oneL look' q.cells=oneL look q.cells:=by
 cases q with
 | agg cs=>exact zhC λk hk=>h k hk
 | p v=>
  have:∀ l:List PV,oneL look' (l.map .p)=oneL look (l.map .p):=λl=>by
   induction l with
   | nil=>rfl
   | cons x r ih=>simp only [xag,oneL,ih]
  exact this _
 | row k n=>
  have:=h k xar;simp only [LV.cells,oneL,this]
 | _=>rfl
theorem zlM {q:LV} (h:∀ k ∈ zW look 5 q,look' k=look k):zgn look' q=zgn look q:=by
 cases q with
 | p v=>cases v<;>rfl
 | lm k=>simp only [zgn,h k xar]
 | _=>rfl
theorem dk_it {k:Nat}:k ∈ zW look 5 (.it k):=xar
theorem dk_lm {k:Nat}:k ∈ zW look 5 (.lm k):=xar
theorem zey:∀ {n:Nat} {pl:List (Nat × Nat)} {ps:List LV},(∀ q ∈ ps,∀ k ∈ zW look 5 q,look' k=look k)->fillLOk look' n pl ps=fillLOk look n pl ps
 | _,[],[],_=>rfl
 | _,[],_::_,_=>rfl
 | _,_::_,[],_=>rfl
 | n,(_,_)::pl,p::ps,h=>by
  have ih:fillLOk look' n pl ps=fillLOk look n pl ps:=zey λq hq=>h q (by simp [hq])
  simp only [fillLOk,ih,zgt (h p (by simp))]
theorem zkq {op:AOp} {ins:List LV} (h:∀ k ∈ ins.flatMap (zW look 5),look' k=look k):zb d look' op ins=zb d look op ins:=by
 have hk:∀ q ∈ ins,∀ k ∈ zW look 5 q,look' k=look k:=λq hq k hk=>h k (xax.2 ⟨q,hq,hk⟩)
 unfold zb
 split<;>first|rfl|skip
 ·rename_i x;rw [zgt (hk x (by simp))]
 ·rw [zey hk]
 ·rename_i sz ag k off;rw [hk (.lp k off) (by simp) k zDD]
 ·rename_i sz ag k n i off;rw [hk (.ep k n i off) (by simp) k zwx]
 ·rename_i sz k off x;rw [hk (.lp k off) (by simp) k zDD];simp only [zgY (hk x (by simp))]
 ·rename_i sz k n i off v;have e2:=zgY (hk (.p v) (by simp))
  simp only [LV.cells] at e2;rw [hk (.ep k n i off) (by simp) k zwx];simp only [e2]
 ·rename_i k n i o;rw [hk (.ep k n i o) (by simp) k zwx]
 ·rename_i off k n i o;rw [hk (.ep k n i o) (by simp) k zwx]
 ·rename_i sz k n q j;rw [hk (.row k n) (by simp) k zsz]
 ·rename_i x _;rw [zbZ (hk x (by simp))]
 ·rename_i e sz b y;rw [zbZ (hk y (by simp))]
 ·rename_i e sz b k n y;rw [zbZ (hk y (by simp)),hk (.row k n) (by simp) k zsz]
 ·rename_i k;rw [hk (.it k) (by simp) k dk_it]
 ·rename_i sz k n y;rw [zbZ (hk y (by simp)),hk (.row k n) (by simp) k zsz]
 ·rename_i ks ag z ok m key;rw [zlM (hk m (by simp))]
 ·rename_i ks ag k key v;rw [hk (.lm k) (by simp) k dk_lm]
end
section
variable {look look':Nat->Option LObj}
theorem zaw {m:Nat} (ih:∀ q:LV,(∀ k ∈ zW look m q,look' k=look k)->toPV look' m q=toPV look m q):∀ l:List LV,(∀ k ∈ l.flatMap (zW look m),look' k=look k)->toPV.go look' m l=toPV.go look m l
 | [],_=>by simp only [toPV.go]
 | q::r,h=>by
  rw [xaH] at h;simp only [toPV.go,ih q λk hk=>h k (xa9 _ hk),zaw ih r λk hk=>h k (xa0 _ hk)]
theorem zbO:∀ (m:Nat) (q:LV),(∀ k ∈ zW look m q,look' k=look k)->toPV look' m q=toPV look m q
 | 0,_,_=>by simp only [toPV]
 | m+1,q,h=>by
  cases q with
  | lp k off=>
   have e:=h k xar;simp only [toPV,e];cases hk:look k with
   | none=>rfl
   | some ob=>cases ob with
    | box cs fz=>
     have hg:toPV.go look' m cs=toPV.go look m cs:=zaw (zbO m) cs λj hj=>h j (by
      simp only [zW,hk];exact xaJ _ hj)
     simp only [hg]
    | _=>rfl
  | row k n=>
   have e:=h k xar;simp only [toPV,e]
  | fn f a b=>
   have h1:toPV.go look' m a=toPV.go look m a:=zaw (zbO m) a λj hj=>h j (by simp only [zW];exact xa9 _ hj)
   have h2:toPV.go look' m b=toPV.go look m b:=zaw (zbO m) b λj hj=>h j (by simp only [zW];exact xa0 _ hj)
   simp only [toPV,h1,h2]
  | agg cs=>
   have h1:toPV.go look' m cs=toPV.go look m cs:=zaw (zbO m) cs λj hj=>h j (by simp only [zW];exact hj)
   simp only [toPV,h1]
  | tup cs=>
   have h1:toPV.go look' m cs=toPV.go look m cs:=zaw (zbO m) cs λj hj=>h j (by simp only [zW];exact hj)
   simp only [toPV,h1]
  | lm k=>
   have e:=h k xar;simp only [toPV,e]
  | _=>simp only [toPV]
theorem zaH {m:Nat} (ih:∀ {q:LV} {pre:Prop} {pv:PV} {ks:List Nat},toPV look m q=some (pre,pv,ks)->∀ k ∈ ks,k ∈ zW look m q) :
  ∀ {l:List LV} {pre:Prop} {ps:List PV} {ks:List Nat},toPV.go look m l=some (pre,ps,ks)->∀ k ∈ ks,k ∈ l.flatMap (zW look m)
 | [],pre,ps,ks,h,k,hk=>by
  simp only [toPV.go] at h;injection h with h;injection h with _ h;injection h with _ h;subst h;cases hk
 | q::r,pre,ps,ks,h,k,hk=>by
  simp only [toPV.go] at h;rw [xaH]
  split at h
  ·rename_i x y hx hy;injection h with h;injection h with _ h;injection h with _ h;subst h
   rcases xaL.1 hk with hk|hk
   ·exact xa9 _ (ih hx k hk)
   ·exact xa0 _ (zaH ih hy k hk)
  ·cases h
theorem zcu:∀ (m:Nat) {q:LV} {pre:Prop} {pv:PV} {ks:List Nat},toPV look m q=some (pre,pv,ks)->∀ k ∈ ks,k ∈ zW look m q
 | 0,q,pre,pv,ks,h,k,hk=>by simp [toPV] at h
 | m+1,q,pre,pv,ks,h,k,hk=>by
  cases q with
  | p v=>simp only [toPV] at h;injection h with h;injection h with _ h;injection h with _ h;subst h;cases hk
  | lp j off=>
   simp only [toPV] at h
   split at h
   ·rename_i cs fz hl;obtain ⟨r,hr,h⟩:=xac.1 h;injection h with _ h;injection h with _ h;subst h;simp only [zW,hl]
    rcases xaB.1 hk with rfl|hk
    ·exact xar
    ·exact xaJ _ (zaH (zcu m) hr k hk)
   ·cases h
  | row j n=>
   simp only [toPV] at h
   split at h
   ·injection h with h;injection h with _ h;injection h with _ h;subst h;exact hk
   ·cases h
  | fn f a b=>
   simp only [toPV] at h
   split at h
   ·rename_i r t hr ht;injection h with h;injection h with _ h;injection h with _ h;subst h;simp only [zW]
    rcases xaL.1 hk with hk|hk
    ·exact xa9 _ (zaH (zcu m) hr k hk)
    ·exact xa0 _ (zaH (zcu m) ht k hk)
   ·cases h
  | agg cs=>
   simp only [toPV] at h;obtain ⟨r,hr,h⟩:=xac.1 h;injection h with _ h;injection h with _ h;subst h;simp only [zW];exact zaH (zcu m) hr k hk
  | tup cs=>
   simp only [toPV] at h;obtain ⟨r,hr,h⟩:=xac.1 h;injection h with _ h;injection h with _ h;subst h;simp only [zW];exact zaH (zcu m) hr k hk
  | lm j=>
   simp only [toPV] at h
   split at h
   ·injection h with h;injection h with _ h;injection h with _ h;subst h;exact hk
   ·cases h
  | _=>simp [toPV] at h
theorem zdF:∀ (m:Nat) (q:LV),∀ k ∈ zW look m q,k ∈ zW look (m+1) q
 | 0,_,k,hk=>by cases hk
 | m+1,q,k,hk=>by
  have key:∀ l:List LV,k ∈ l.flatMap (zW look m)->k ∈ l.flatMap (zW look (m+1)):=λl hl=>by
   obtain ⟨x,hx,h⟩:=xax.1 hl;exact xax.2 ⟨x,hx,zdF m x k h⟩
  cases q with
  | lp j off=>
   rw [zW] at hk ⊢
   rcases xaB.1 hk with rfl|hk
   ·exact xar
   ·refine xaJ _ ?_
    split at hk
    ·exact key _ hk
    ·cases hk
  | fn f a b=>
   rw [zW] at hk ⊢
   rcases xaL.1 hk with hk|hk
   ·exact xa9 _ (key _ hk)
   ·exact xa0 _ (key _ hk)
  | agg cs=>rw [zW] at hk ⊢;exact key _ hk
  | tup cs=>rw [zW] at hk ⊢;exact key _ hk
  | _=>exact hk
theorem ze4:∀ (ks:List Nat),(∀ k ∈ ks,look' k=look k)->frzs look' ks=frzs look ks
 | [],_=>rfl
 | k::r,h=>by simp only [frzs,h k (by simp),ze4 r λj hj=>h j (by simp [hj])]
end
theorem zlD {P:Program} {s s':St} {o:RO} {v:LV} {wr:List (Nat × LObj)} (hs:zb3 P s o v wr) (ht:∀ t ∈ rdT o,s'.get t=s.get t) (ho:∀ k ∈ rdO s o,s'.look k=s.look k) (hd:s'.look (o.dst.getD 0)=s.look (o.dst.getD 0)) (hw:∀ k ∈ wr.map (·.1),s'.look k=s.look k):zb3 P s' o v wr:=by
 have hg:gOf s' o.guard=gOf s o.guard:=by
  cases hq:o.guard with
  | none=>rfl
  | some x=>
   have:=ht x.1 (by simp [rdT,gTmp,hq])
   simp only [gOf,this]
 have he:∀ x ∈ o.args,x.ev s'=x.ev s:=λx hx=>by
  cases x with
  | t n=>exact ht n (xa0 _ (xax.2 ⟨_,hx,by simp [AOpd.tmps]⟩))
  | c v=>rfl
 have hr:zd s' o.args=zd s o.args:=List.map_congr_left he;have hlook:o.op≠.mv->o.op≠.pick->∀ k ∈ (uns (zd s o.args)).flatMap (zW s.look 5),s'.look k=s.look k:=λh1 h2 k hk=>ho k (by
  unfold rdO
  split
  ·exact absurd ‹_› h1
  ·exact absurd ‹_› h2
  ·exact hk)
 have hpv:o.op≠.mv->o.op≠.pick->toPVs s'.look (uns (zd s o.args))=toPVs s.look (uns (zd s o.args)):=λh1 h2=>
  zaw (zbO 4) _ λk hk=>hlook h1 h2 k (by
   obtain ⟨x,hx,h⟩:=xax.1 hk;exact xax.2 ⟨x,hx,zdF 4 x k h⟩)
 have hlent:∀ {m:Nat->Nat} {obj obj':List (Nat × LObj)},(∀ k o,zp obj k=some o->∃ o',zp obj' k=some o'/\o.Follows o')->(∀ k ∈ (zbF m obj').map (·.1),s'.look k=s.look k)->zn6 s m obj obj'->zn6 s' m obj obj':=fun {m obj obj'} hf hw h=>by
  have hin:∀ k o,zp obj' k=some o->s'.look (m k)=s.look (m k):=λk o hk=>hw _ (by
   rw [zbF,xbS];exact xa3.2 ⟨(k,o),zcG hk,rfl⟩)
  exact ⟨λk o hk=>by obtain ⟨o',h1,_⟩:=hf k o hk;rw [hin k o' h1];exact h.old k o hk,λk o hk h0=>by rw [hin k o hk];exact h.new k o hk h0,h.nd⟩
 cases hs with
 | @callS f m args obj obj' r h1 h2 h3 h4 h5 h6=>exact .callS h1 (hg.trans h2) (by rw [hr];exact h3) (by rw [hr];exact h4) h5 (hlent h5.2.2.1 hw h6)
 | @callSV f m fs cs vs args obj obj' r h1 h2 h3 h3' h4 h5 h6=>exact .callSV h1 (hg.trans h2) (by rw [hr];exact h3) h3' (by rw [hr];exact h4) h5 (hlent h5.2.2.1 hw h6)
 | @mv x c h1 h2 h3=>
  rw [<-he x (by rw [h2];simp)]
  exact .mv h1 h2 (hg.trans h3)
 | @pick x y z c pre v h1 h2 h3 h4 h5=>
  refine .pick h1 h2 (hg.trans h3) (pre:=pre) ?_ ?_
  ·rw [he x (by rw [h2];simp),he y (by rw [h2];simp),he z (by rw [h2];simp)];exact h4
  ·rw [he x (by rw [h2];simp)];exact h5
 | @ev c pre eff h1 h2 h3 h4 h5=>
  have hn1:o.op≠.mv:=λe=>by rw [e] at h2;simp [zb] at h2
  have hn2:o.op≠.pick:=λe=>by rw [e] at h2;simp [zb] at h2
  refine .ev (pre:=pre) (hg.trans h1) ?_ (by rw [hr];exact h3) h4 (λe=>by rw [hd];exact h5 e)
  rw [hr,zkq (hlook hn1 hn2)];exact h2
 | @callA c f pre vs ks r h1 h2 h3 h4 h5=>
  have hn1:o.op≠.mv:=by rw [h1];exact λe=>by cases e
  have hn2:o.op≠.pick:=by rw [h1];exact λe=>by cases e
  refine .callA (pre:=pre) (vs:=vs) (ks:=ks) h1 (hg.trans h2) ?_ (by rw [hr];exact h4) h5
  rw [hr,hpv hn1 hn2];exact h3
 | @callB f pre vs ks r h1 h2 h3 h4 h5 h6=>
  have hn1:o.op≠.mv:=by rw [h1];exact λe=>by cases e
  have hn2:o.op≠.pick:=by rw [h1];exact λe=>by cases e
  have hks:frzs s'.look ks=frzs s.look ks:=ze4 ks λk hk=>hlook hn1 hn2 k (by
   have:=zaH (λhq=>zcu 4 hq) h3 k hk
   obtain ⟨x,hx,h⟩:=xax.1 this;exact xax.2 ⟨x,hx,zdF 4 x k h⟩)
  rw [<-hks];refine .callB (pre:=pre) (vs:=vs) h1 (hg.trans h2) ?_ (by rw [hr];exact h4) h5 h6
  rw [hr,hpv hn1 hn2];exact h3
 | @callV c f pre fs cs vs ks r h1 h2 h3 h4 h5=>
  have hn1:o.op≠.mv:=by rw [h1];exact λe=>by cases e
  have hn2:o.op≠.pick:=by rw [h1];exact λe=>by cases e
  refine .callV (pre:=pre) (vs:=vs) (ks:=ks) (fs:=fs) (cs:=cs) h1 (hg.trans h2) ?_ (by rw [hr];exact h4) h5
  rw [hr,hpv hn1 hn2];exact h3
 | @callVB f pre fs cs vs ks r h1 h2 h3 h4 h5 h6=>
  have hn1:o.op≠.mv:=by rw [h1];exact λe=>by cases e
  have hn2:o.op≠.pick:=by rw [h1];exact λe=>by cases e
  have hks:frzs s'.look ks=frzs s.look ks:=ze4 ks λk hk=>hlook hn1 hn2 k (by
   have:=zaH (λhq=>zcu 4 hq) h3 k hk
   obtain ⟨x,hx,h⟩:=xax.1 this;exact xax.2 ⟨x,hx,zdF 4 x k h⟩)
  rw [<-hks];refine .callVB (pre:=pre) (vs:=vs) (fs:=fs) (cs:=cs) h1 (hg.trans h2) ?_ (by rw [hr];exact h4) h5 h6
  rw [hr,hpv hn1 hn2];exact h3
 | callN h2=>exact .callN (hg.trans h2)
 | @callH f k e sz c0 pre vs0 vs xs ks a0 r h1 h2 h3 h4 h5 h6 h7 h8 h9=>
  have hn1:o.op≠.mv:=by rw [h1];exact λe=>by cases e
  have hn2:o.op≠.pick:=by rw [h1];exact λe=>by cases e
  exact .callH (pre:=pre) (vs0:=vs0) (vs:=vs) (ks:=ks) h1 h2 (by rw [hr,hpv hn1 hn2];exact h3) (by rw [hr];exact h4) h5 (by rw [hw k (by simp)];exact h6) h7 h8 h9
 | @appH e sz by_ k c0 sz' x y a0 xs ys rd pre h1 h2 h3 h4 h5 h6 h7 h8 h9 h10 h11=>
  have hn1:o.op≠.mv:=by rw [h1];exact λe=>by cases e
  have hn2:o.op≠.pick:=by rw [h1];exact λe=>by cases e
  refine .appH (pre:=pre) (rd:=rd) (sz':=sz') h1 h2 h3 (by rw [hr];exact h4) (by rw [he x (by rw [h2];simp)];exact h5) (by rw [hw k (by simp)];exact h6) ?_ h8 h9 h10 h11
  rw [he y (by rw [h2];simp),zbZ λj hj=>hlook hn1 hn2 j ?_]
  ·exact h7
  ·rw [h2];simp only [zd,uns,xag,xav,xaH,xbn,xat];exact xa0 _ hj
structure Rec where
 o:RO
 v:LV
 wr:List (Nat × LObj)
 ro:List Nat
def zic:List (Nat × LObj)->Nat->Option LObj
 | [],_=>none
 | (j,o)::r,k=>match zic r k with
  | some x=>some x
  | none=>if k=j then some o else none
def gW (x:Rec) (k:Nat):Option LV:=if x.o.dst=some k then some x.v else none
def oW (x:Rec) (k:Nat):Option (Option LObj):=(zic x.wr k).map some
theorem zet:∀ (wr:List (Nat × LObj)) (s:St) (k:Nat),(s.wrs wr).look k=((zic wr k).map some).getD (s.look k)
 | [],_,_=>rfl
 | (j,o)::r,s,k=>by
  rw [St.wrs,zet r];simp only [zic];cases h:zic r k with
  | some x=>rfl
  | none=>
   simp only [Option.map_none,Option.getD_none,St.look,St.wr,zbV,upd]
   split<;>rfl
theorem zjz:∀ {wr:List (Nat × LObj)} {k:Nat},(zic wr k).isSome=true->k ∈ wr.map (·.1)
 | [],k,h=>by simp [zic] at h
 | (j,o)::r,k,h=>by
  simp only [zic] at h;cases hr:zic r k with
  | some x=>exact xaJ _ (zjz (by rw [hr];rfl))
  | none=>
   simp only [hr] at h
   by_cases e:k=j
   ·subst e;exact xar
   ·rw [if_neg e] at h;cases h
inductive Ch (P:Program):List RO->St->List Rec->St->Prop
 | nil (s:St):Ch P [] s [] s
 | cons {o:RO} {r:List RO} {s s':St} {v:LV} {wr:List (Nat × LObj)} {rs:List Rec}:zb3 P s o v wr->Ch P r ((s.wrs wr).set o.dst v) rs s'->Ch P (o::r) s (⟨o,v,wr,rdO s o⟩::rs) s'
def ov {β:Type} (W:Rec->Nat->Option β):List Rec->Nat->(Nat->Bool)->(Nat->β)->Nat->β
 | [],_,_,f,k=>f k
 | x::xs,n,S,f,k=>ov W xs (n+1) S (λk=>if S n then (W x k).getD (f k) else f k) k
theorem zcT {β:Type} {W:Rec->Nat->Option β} {S T:Nat->Bool} {k:Nat}:∀ {rs:List Rec} {n:Nat} {f f':Nat->β},(∀ j x,rs[j]?=some x->(W x k).isSome=true->S (n+j)=T (n+j))->f k=f' k->ov W rs n S f k=ov W rs n T f' k
 | [],n,f,f',_,hf=>hf
 | x::xs,n,f,f',h,hf=>by
  simp only [ov];refine zcT (λj y hy hw=>?_) ?_
  ·have:=h (j+1) y (by simpa using hy) hw
   rw [show n+1+j=n+(j+1) by omega];exact this
  ·cases hw:W x k with
   | none=>simp [hf]
   | some b=>
    have:=h 0 x rfl (by rw [hw];rfl)
    simp only [xbD] at this;simp only [this,hf]
theorem zcD {β:Type} {W:Rec->Nat->Option β} {S:Nat->Bool} {k:Nat}:∀ {rs:List Rec} {n:Nat} {f:Nat->β},(∀ j,n<=j->S j=false)->ov W rs n S f k=f k
 | [],n,f,_=>rfl
 | x::xs,n,f,h=>by
  simp only [ov];rw [zcD (λj hj=>h j (by omega))]
  simp [h n (xah _)]
theorem zi8 (s:St) (x:Rec) (k:Nat):((s.wrs x.wr).set x.o.dst x.v).get k=(gW x k).getD (s.get k):=by
 rw [zl0,zcK];simp only [gW];cases hd:x.o.dst with
 | none=>simp
 | some d=>
  simp only [upd,xaC]
  by_cases h:k=d
  ·subst h;simp
  ·rw [if_neg h,if_neg (λe=>h e.symm)];rfl
theorem zgo (s:St) (x:Rec) (k:Nat):((s.wrs x.wr).set x.o.dst x.v).look k=(oW x k).getD (s.look k):=by
 rw [ziX,zet];rfl
theorem zDY {P:Program} {l:List RO} {s s':St} {rs:List Rec} (h:Ch P l s rs s'):∀ (n i:Nat) (x:Rec),rs[i]?=some x->∃ si:St,l[i]?=some x.o/\zb3 P si x.o x.v x.wr/\x.ro=rdO si x.o /\
  (∀ k,si.get k=ov gW rs n (λj=>decide (j < n+i)) s.get k)/\(∀ k,si.look k=ov oW rs n (λj=>decide (j < n+i)) s.look k):=by
 induction h with
 | nil s=>intro n i x hx;simp at hx
 | @cons o r s s' v wr rs hs hch ih=>
  intro n i x hx;cases i with
  | zero=>
   simp at hx;subst hx;exact ⟨s,rfl,hs,rfl,λk=>(zcD (λj hj=>by simp;omega)).symm,λk=>(zcD (λj hj=>by simp;omega)).symm⟩
  | succ i=>
   obtain ⟨si,h1,h2,h3,h4,h5⟩:=ih (n+1) i x (by simpa using hx)
   refine ⟨si,by simpa using h1,h2,h3,λk=>?_,λk=>?_⟩
   ·rw [h4 k];simp only [ov];refine zcT (λj y hy hw=>by simp only [decide_eq_decide];omega) ?_
    rw [zi8 s ⟨o,v,wr,rdO s o⟩ k];simp
   ·rw [h5 k];simp only [ov];refine zcT (λj y hy hw=>by simp only [decide_eq_decide];omega) ?_
    rw [zgo s ⟨o,v,wr,rdO s o⟩ k];simp
theorem zDX {P:Program} {l:List RO} {s s':St} {rs:List Rec} (h:Ch P l s rs s'):∀ (n:Nat),rs.length=l.length/\s'.tr=s.tr/\s'.stop=s.stop/\(∀ k,s'.get k=ov gW rs n (λ_=>true) s.get k)/\(∀ k,s'.look k=ov oW rs n (λ_=>true) s.look k):=by
 induction h with
 | nil s=>intro n;exact ⟨rfl,rfl,rfl,λ_=>rfl,λ_=>rfl⟩
 | @cons o r s s' v wr rs hs hch ih=>
  intro n;obtain ⟨h0,h1,h2,h4,h5⟩:=ih (n+1);refine ⟨by simp [h0],by rw [h1,(zX _ _ _).1,(zaQ _ _).1],by rw [h2,(zX _ _ _).2,(zaQ _ _).2],λk=>?_,λk=>?_⟩
  ·rw [h4 k];simp only [ov];refine zcT (λj y hy hw=>rfl) ?_
   rw [zi8 s ⟨o,v,wr,rdO s o⟩ k];simp
  ·rw [h5 k];simp only [ov];refine zcT (λj y hy hw=>rfl) ?_
   rw [zgo s ⟨o,v,wr,rdO s o⟩ k];simp
def Rec.wT (x:Rec):List Nat:=x.o.dst.toList
def Rec.rT (x:Rec):List Nat:=rdT x.o
def Rec.wO (x:Rec):List Nat:=x.o.dst.getD 0::x.wr.map (·.1)
def zeq (l m:List Nat):Bool:=l.any λa=>m.contains a
def cf (x y:Rec):Bool:=zeq x.wT y.rT || zeq x.wT y.wT || zeq x.rT y.wT || zeq x.wO y.ro || zeq x.wO y.wO || zeq x.ro y.wO
def dep (b:Nat) (rs:List Rec):Nat->Nat->Nat->Bool
 | 0,_,_=>false
 | f+1,i,j=>match rs[j]? with
  | some x=>x.o.after.contains (b+i) || x.o.after.any λm=>decide (b<=m) && dep b rs f i (m - b)
  | none=>false
def zgP (b:Nat) (rs:List Rec):Bool:=
 (List.range rs.length).all λj=>match rs[j]? with
  | some y=>(y.o.after.all λe=>decide (e < b+j)) && (List.range j).all λi=>match rs[i]? with
   | some x=>!cf x y || dep b rs 3 i j
   | none=>true
  | none=>true
theorem zb5 {l m:List Nat} {a:Nat} (h1:a ∈ l) (h2:a ∈ m):zeq l m=true:=by
 simp only [zeq,xbv];exact ⟨a,h1,by simpa using h2⟩
theorem zgQ {b:Nat} {rs:List Rec} {S:Nat->Bool} (hcl:∀ j x,rs[j]?=some x->S (b+j)=true->∀ e ∈ x.o.after,S e=true):∀ (f i j:Nat) (x:Rec),rs[j]?=some x->(∀ e ∈ x.o.after,S e=true)->dep b rs f i j=true->S (b+i)=true
 | 0,_,_,_,_,_,h=>by simp [dep] at h
 | f+1,i,j,x,hx,hs,h=>by
  simp only [dep,hx,xaY,xbv,xam,decide_eq_true_eq] at h
  rcases h with h|⟨m,hm,hbm,h⟩
  ·exact hs (b+i) (by simpa using h)
  ·cases hy:rs[m - b]? with
   | none=>
    cases f with
    | zero=>simp [dep] at h
    | succ f=>simp [dep,hy] at h
   | some y=>exact zgQ hcl f i (m - b) y hy (hcl (m - b) y hy (by rw [show b+(m - b)=m by omega];exact hs m hm)) h
theorem zsx {b:Nat} {rs:List Rec} (h:zgP b rs=true) {j:Nat} {y:Rec} (hy:rs[j]?=some y):∀ e ∈ y.o.after,e < b+j:=by
 have hj:j < rs.length:=(xaa.1 hy).1;simp only [zgP,xaD,xaO] at h;have:=h j hj;rw [hy] at this;simp only [xam,xaD,decide_eq_true_eq] at this;exact this.1
theorem zsy {b:Nat} {rs:List Rec} (h:zgP b rs=true) {i j:Nat} {x y:Rec} (hij:i < j) (hx:rs[i]?=some x) (hy:rs[j]?=some y) (hc:cf x y=true):dep b rs 3 i j=true:=by
 have hj:j < rs.length:=(xaa.1 hy).1;simp only [zgP,xaD,xaO] at h;have:=h j hj;rw [hy] at this;simp only [xam,xaD,xaO] at this;have:=this.2 i hij;rw [hx] at this;simpa [hc] using this
theorem zbv {ops:Array Oper} {listed:Array Bool} {i:Nat}:i ∈ Region.ready .any ops listed↔∃ oper,ops[i]?=some oper/\listed.getD i true=false/\∀ e ∈ oper.after.toList,Region.binds .any e=true->listed.getD e.on false=true:=by
 simp only [Region.ready,xbM,xaO,xam,xaX]
 constructor
 ·rintro ⟨hi,h1,h2⟩;have hs:=xan hi;refine ⟨_,hs,h1,λe he hb=>?_⟩
  rw [hs] at h2;simp only [xb6,xa1,Array.all_eq_true] at h2;obtain ⟨n,hn,hne⟩:=List.getElem_of_mem he;have:=h2 n (by simpa using hn)
  simp only [Array.getElem_toList] at hne;rw [hne] at this;simpa [hb] using this
 ·rintro ⟨oper,hs,h1,h2⟩;refine ⟨(xaR.1 hs).1,h1,?_⟩;rw [hs];simp only [xb6,xa1,Array.all_eq_true];intro n hn;cases hb:Region.binds .any oper.after[n] with
  | false=>simp
  | true=>simpa using h2 _ (by simp) hb
theorem zdJ {P:Program} {N:Nat} {ops:Array Oper} {oper:Oper} {o:RO} (hr:ROk P N ops oper o) {listed:Nat->Bool}:(∀ e ∈ oper.after.toList,Region.binds .any e=true->listed e.on=true)↔∀ e ∈ o.after,listed e=true:=by
 rw [hr.ha]
 constructor
 ·intro h e he;obtain ⟨x,hx,hxe⟩:=List.mem_filterMap.1 he
  split at hxe
  ·rename_i hb;injection hxe with hxe;subst hxe;exact h x hx hb
  ·cases hxe
 ·intro h e he hb;exact h e.on (List.mem_filterMap.2 ⟨e,he,by rw [if_pos hb]⟩)
theorem zbq {P:Program} {N:Nat} {ops:Array Oper}:∀ {os:List Oper} {l:List RO},zbi P N ops os=some l->os.length=l.length/\∀ (i:Nat) (x:Oper),os[i]?=some x->∃ o,l[i]?=some o/\zco P N ops x=some o
 | [],l,h=>by simp [zbi] at h;subst h;exact ⟨rfl,λi x hx=>by simp at hx⟩
 | y::os,l,h=>by
  simp only [zbi] at h
  split at h
  ·rename_i o r ho hr;injection h with h;subst h;obtain ⟨h1,h2⟩:=zbq hr;refine ⟨by simp [h1],λi x hx=>?_⟩
   cases i with
   | zero=>simp at hx;subst hx;exact ⟨o,rfl,ho⟩
   | succ i=>obtain ⟨o',g1,g2⟩:=h2 i x (by simpa using hx);exact ⟨o',by simpa using g1,g2⟩
  ·cases h
def zi4 (listed:Array Bool) (n:Nat):Nat:=(List.range n).countP λi=>!listed.getD i false
theorem zi3 {listed:Array Bool} {n i:Nat} (hi:i < n) (hs:listed.size=n) (hf:listed.getD i false=false):zi4 (listed.setIfInBounds i true) n+1=zi4 listed n:=by
 unfold zi4;have key:∀ m,m<=n->(List.range m).countP (λj=>!(listed.setIfInBounds i true).getD j false)+(if i < m then 1 else 0)=(List.range m).countP (λj=>!listed.getD j false):=by
  intro m
  induction m with
  | zero=>intro _;simp
  | succ m ih=>
   intro hm;have ih:=ih (by omega)
   rw [xbt,List.countP_append,List.countP_append];simp only [List.countP_singleton]
   by_cases e:i=m
   ·subst e;have h1:(listed.setIfInBounds i true).getD i false=true:=by
     rw [xap,xbL (by omega)];rfl
    rw [h1,hf];simp at ih ⊢
    omega
   ·have h1:(listed.setIfInBounds i true).getD m false=listed.getD m false:=by
     rw [xap,xap,xbH e]
    rw [h1];have:(if i < m+1 then 1 else 0)=(if i < m then 1 else 0):=by split<;>split<;>omega
    omega
 have:=key n (xah _);rw [if_pos hi] at this;exact this
theorem zka {listed:Array Bool} {n:Nat} (h:zi4 listed n=0):∀ i,i < n->listed.getD i false=true:=by
 intro i hi;unfold zi4 at h;rw [List.countP_eq_zero] at h;simpa using h i (xaO.2 hi)
theorem zro {β:Type} {W:Rec->Nat->Option β} {k:Nat}:∀ {rs:List Rec} {n i:Nat} {x:Rec} {f:Nat->β},rs[i]?=some x->ov W rs n (λj=>decide (j < n+(i+1))) f k=(W x k).getD (ov W rs n (λj=>decide (j < n+i)) f k)
 | [],n,i,x,f,h=>by simp at h
 | y::rs,n,0,x,f,h=>by
  simp at h;subst h;simp only [ov];rw [zcD (λj hj=>by simp;omega),zcD (λj hj=>by simp;omega)]
  simp
 | y::rs,n,i+1,x,f,h=>by
  have:=zro (W:=W) (k:=k) (rs:=rs) (n:=n+1) (i:=i) (x:=x) (f:=λk=>(W y k).getD (f k)) (by simpa using h)
  simp only [ov];have e1:∀ m,ov W rs (n+1) (λj=>decide (j < n+(m+1))) (λk=>if decide (n < n+(m+1))=true then (W y k).getD (f k) else f k) k=ov W rs (n+1) (λj=>decide (j < n+1+m)) (λk=>(W y k).getD (f k)) k:=λm=>
   zcT (λj z hz hw=>by simp only [decide_eq_decide];omega) (by simp)
  rw [e1 (i+1),e1 i];exact this
theorem zi9 {listed:Array Bool} {i j:Nat} (hi:i < listed.size):(listed.setIfInBounds i true).getD j false=if j=i then true else listed.getD j false:=by
 rw [xap,xap]
 by_cases e:j=i
 ·subst e;rw [xbL hi,if_pos rfl];rfl
 ·rw [xbH (Ne.symm e),if_neg e]
theorem cf_T {x y:Rec} {k:Nat} (h1:k ∈ x.wT) (h2:k ∈ y.rT\/k ∈ y.wT):cf x y=true/\cf y x=true:=by
 rcases h2 with h2|h2
 ·exact ⟨by simp [cf,zb5 h1 h2],by simp [cf,zb5 h2 h1]⟩
 ·exact ⟨by simp [cf,zb5 h1 h2],by simp [cf,zb5 h2 h1]⟩
theorem cf_O {x y:Rec} {k:Nat} (h1:k ∈ x.wO) (h2:k ∈ y.ro\/k ∈ y.wO):cf x y=true/\cf y x=true:=by
 rcases h2 with h2|h2
 ·exact ⟨by simp [cf,zb5 h1 h2],by simp [cf,zb5 h2 h1]⟩
 ·exact ⟨by simp [cf,zb5 h1 h2],by simp [cf,zb5 h2 h1]⟩
theorem zxH {x:Rec} {k:Nat} (h:(gW x k).isSome=true):k ∈ x.wT:=by
 simp only [gW] at h
 split at h
 ·rename_i e;simp [Rec.wT,e]
 ·cases h
theorem zxB {x:Rec} {k:Nat} (h:(oW x k).isSome=true):k ∈ x.wO:=by
 simp only [oW,Option.isSome_map] at h;exact xaJ _ (zjz h)
theorem zyn {b ii:Nat} {rs:List Rec} {S:Nat->Bool} {x:Rec} {f:Rec->Rec->Bool} (hd:∀ i j x y,i < j->rs[i]?=some x->rs[j]?=some y->f x y=true->dep b rs 3 i j=true) (hcR:∀ j y,rs[j]?=some y->S (b+j)=true->∀ e ∈ y.o.after,S e=true)
  (hx:rs[ii]?=some x) (haf:∀ e ∈ x.o.after,S e=true) (hun:S (b+ii)=false) {j:Nat} {y:Rec} (hy:rs[j]?=some y) (hc:f y x=true/\f x y=true):S (b+j)=decide (j < ii):=by
 rcases xck j ii with h|rfl|h
 ·rw [zgQ hcR 3 j ii x hx haf (hd _ _ _ _ h hy hx hc.1)];simp [h]
 ·rw [hun];simp
 ·cases hq:S (b+j) with
  | false=>simp [Nat.le_of_lt h]
  | true=>
   rw [zgQ hcR 3 ii j y hy (hcR j y hy hq) (hd _ _ _ _ h hx hy hc.2)] at hun;cases hun
theorem zqh {β:Type} {W:Rec->Nat->Option β} {b k ii:Nat} {rs:List Rec} {x:Rec} {S S':Nat->Bool} {f g:Nat->β} (hx:rs[ii]?=some x) (hS:∀ j,S' j=if j=b+ii then true else S j) (hg:g k=ov W rs b S f k)
  (hW:(W x k).isSome=true->∀ j y,rs[j]?=some y->(W y k).isSome=true->S (b+j)=decide (j < ii)):(W x k).getD (g k)=ov W rs b S' f k:=by
 cases hw:W x k with
 | none=>
  simp only [Option.getD_none];rw [hg];refine zcT (λj y hy hwy=>?_) rfl
  rw [hS]
  by_cases ej:j=ii
  ·subst ej;rw [hx] at hy;injection hy with hy;subst hy;rw [hw] at hwy;cases hwy
  ·rw [if_neg (by omega)]
 | some v=>
  have:=zro (W:=W) (k:=k) (n:=b) (f:=f) hx;rw [hw] at this;simp only [xa1] at this ⊢;rw [<-this];refine zcT (λj y hy hwy=>?_) rfl
  rw [hS]
  by_cases ej:j=ii
  ·subst ej;simp
  ·rw [if_neg (by omega),hW (by rw [hw];rfl) j y hy hwy];simp only [decide_eq_decide];omega
theorem znA {S:Nat->Bool}:∀ {n:Nat},(¬∀ i,i < n->S i=true)->∃ i,i < n/\S i=false/\∀ j,j < i->S j=true
 | 0,h=>absurd (λi hi=>by omega) h
 | n+1,h=>by
  by_cases hy:∀ i,i < n->S i=true
  ·refine ⟨n,Nat.lt_succ_self n,?_,hy⟩;cases hq:S n with
   | false=>rfl
   | true=>exact absurd (λi hi=>if e:i=n then e ▸ hq else hy i (by omega)) h
  ·obtain ⟨i,e1,e2,e3⟩:=znA hy;exact ⟨i,by omega,e2,e3⟩
theorem zwu {P:Program} {ro:Option Nat} {N b n:Nat} {ops:Array Oper} {L:List RO} (hcomp:zbi P N ops ops.toList=some L) (hLl:b+n<=L.length) (hlt:∀ i o,b<=i->i < b+n->L[i]?=some o->∀ e ∈ o.after,e < i)
  (hbar:∀ (S:Nat->Bool),(∀ j o,L[j]?=some o->S j=true->∀ e ∈ o.after,S e=true)->(∀ j,j < b->S j=true)->∀ i o,b+n<=i->L[i]?=some o->(∀ e ∈ o.after,S e=true)->∀ j,j < b+n->S j=true)
  {QX:Exit->Act->World->Prop} {I:(Nat->Bool)->Act->World->Prop}
  (hQ:∀ (fuel:Nat) (listed:Array Bool) (a:Act) (w:World),listed.size=ops.size->zi4 listed ops.size<=fuel->(∀ j,listed.getD j false=decide (j < b+n))->I (λj=>listed.getD j false) a w->wpAnyIn (zaF ro) 0 P .any ops QX fuel listed a w)
  (hI:∀ (S S':Nat->Bool) (a:Act) (w:World) (oper:Oper) (o:RO) (ii:Nat),ii < n->L[b+ii]?=some o->zco P N ops oper=some o->S (b+ii)=false->(∀ e ∈ o.after,S e=true)->(∀ j o,L[j]?=some o->S j=true->∀ e ∈ o.after,S e=true)->(∀ j,S' j=if j=b+ii then true else S j)->I S a w ->
   ∀ K:Act->World->Prop,(∀ a' w',I S' a' w'->K a' w')->if Region.wanted oper (yielded ops a.tmps) then oper.wpIn (zaF ro) 0 P a w K QX else (∀ f,oper.about P w a.eval=some f->(zaF ro).fn f)/\K (a.put oper.dst undef) w) :
  ∀ (fuel:Nat) (listed:Array Bool) (a:Act) (w:World),listed.size=ops.size->zi4 listed ops.size<=fuel->(∀ j,j < b->listed.getD j false=true)->(∀ j,b+n<=j->listed.getD j false=false) ->
  (∀ j o,L[j]?=some o->listed.getD j false=true->∀ e ∈ o.after,listed.getD e false=true)->I (λj=>listed.getD j false) a w->wpAnyIn (zaF ro) 0 P .any ops QX fuel listed a w:=by
 obtain ⟨hcl,hcg⟩:=zbq hcomp;have hn:L.length=ops.size:=by rw [<-hcl];simp
 have hat:∀ (i:Nat) (oper:Oper),ops[i]?=some oper->∃ o,L[i]?=some o/\zco P N ops oper=some o:=λi oper hi=>hcg i oper (by simpa using hi)
 have hfin:∀ (fuel:Nat) (listed:Array Bool) (a:Act) (w:World),listed.size=ops.size->zi4 listed ops.size<=fuel->(∀ j,b+n<=j->listed.getD j false=false)->(∀ i,i < b+n->listed.getD i false=true)->I (λj=>listed.getD j false) a w->wpAnyIn (zaF ro) 0 P .any ops QX fuel listed a w:=λfuel listed a w hs hl h1 hall hi=>
  hQ fuel listed a w hs hl (λj=>by
   by_cases e:j < b+n
   ·rw [hall j e];simp [e]
   ·rw [h1 j (by omega)];simp [e]) hi
 intro fuel
 induction fuel with
 | zero=>
  intro listed a w hs hl h0 h1 hc hi;exact hfin 0 listed a w hs hl h1 (λi hi=>zka (Nat.le_zero.1 hl) i (by omega)) hi
 | succ fuel ih=>
  intro listed a w hs hl h0 h1 hc hi
  by_cases hall2:∀ i,i < b+n->listed.getD i false=true
  ·exact hfin (fuel+1) listed a w hs hl h1 hall2 hi
  have hge:∀ i,i < ops.size->(listed.getD i true=listed.getD i false):=λi hi=>by
   rw [xap,xap,xan (by omega)];rfl
  obtain ⟨i0,hi0,hf0,hb0⟩:=znA (S:=λj=>listed.getD j false) hall2
  refine ⟨λhr=>?_,λi hi2=>?_⟩
  ·exfalso
   have hbi:b<=i0:=Nat.not_lt.1 λe=>by rw [h0 i0 e] at hf0;cases hf0
   have hoper:=xan (xs:=ops) (i:=i0) (by omega)
   obtain ⟨o,g1,hco⟩:=hat i0 _ hoper;have:i0 ∈ Region.ready .any ops listed:=zbv.2 ⟨_,hoper,(hge i0 (by omega)).trans hf0,(zdJ (zak hco) (listed:=λe=>listed.getD e false)).2 λe he=>hb0 e (hlt i0 o hbi hi0 g1 e he)⟩
   rw [hr] at this;cases this
  obtain ⟨oper,g1,g2,g3⟩:=zbv.1 hi2;have hlt:=(xaR.1 g1).1;have hun:listed.getD i false=false:=(hge i hlt).symm.trans g2;obtain ⟨o,hLo,hcx⟩:=hat i oper g1;have haf:=(zdJ (zak hcx) (listed:=λe=>listed.getD e false)).1 g3
  have hib:b<=i:=Nat.not_lt.1 λe=>by rw [h0 i e] at hun;cases hun
  have hie:i < b+n:=Nat.not_le.1 λe=>hall2 (hbar (λj=>listed.getD j false) hc h0 i o e hLo haf)
  obtain ⟨ii,rfl⟩:∃ ii,i=b+ii:=⟨i - b,by omega⟩
  have hgs:∀ j,(listed.setIfInBounds (b+ii) true).getD j false=if j=b+ii then true else listed.getD j false:=λj=>zi9 (by omega)
  unfold wpOpIn;rw [g1];refine hI _ (λj=>(listed.setIfInBounds (b+ii) true).getD j false) a w oper o ii (by omega) hLo hcx hun haf hc hgs hi _ λa' w' hi'=>?_
  refine ih _ a' w' (by simpa using hs) (by have:=zi3 hlt hs hun;omega) (λj hj=>by rw [hgs];split<;>first|rfl|exact h0 j hj) (λj hj=>by rw [hgs,if_neg (by omega)];exact h1 j hj) (λj y hy hj e he=>?_) hi'
  rw [hgs] at hj ⊢;have:listed.getD e false=true:=by
   by_cases ej:j=b+ii
   ·subst ej;rw [hLo] at hy;injection hy with hy;subst hy;exact haf e he
   ·rw [if_neg ej] at hj;exact hc j y hy hj e he
  rw [this];simp
theorem zjk {P:Program} {ro:Option Nat} {X:Fx} {ops:Array Oper} (hM:X.MOk) {b:Nat} {L l:List RO} {rs:List Rec} {s s':St} (hch:Ch P l s rs s') (hok:zgP b rs=true) (hcomp:zbi P X.N ops ops.toList=some L)
  (hL:∀ j o,l[j]?=some o->L[b+j]?=some o) (hLl:b+l.length<=L.length)
  (hbar:∀ (S:Nat->Bool),(∀ j o,L[j]?=some o->S j=true->∀ e ∈ o.after,S e=true)->(∀ j,j < b->S j=true)->∀ i o,b+l.length<=i->L[i]?=some o->(∀ e ∈ o.after,S e=true)->∀ j,j < b+l.length->S j=true)
  {QX:Exit->Act->World->Prop}
  (hQ:∀ (fuel:Nat) (listed:Array Bool) (C:Ctx) (a:Act) (w:World),listed.size=ops.size->zi4 listed ops.size<=fuel->(∀ j,listed.getD j false=decide (j < b+l.length))->RelC X C s'.get s'.look s'.tr s'.stop a w->wpAnyIn (zaF ro) 0 P .any ops QX fuel listed a w) :
  ∀ (fuel:Nat) (listed:Array Bool) (a:Act) (w:World),listed.size=ops.size->zi4 listed ops.size<=fuel->(∀ j,j < b->listed.getD j false=true)->(∀ j,b+l.length<=j->listed.getD j false=false) ->
  (∀ j o,L[j]?=some o->listed.getD j false=true->∀ e ∈ o.after,listed.getD e false=true) ->
  (∃ (C:Ctx) (σ:St),RelC X C σ.get σ.look σ.tr σ.stop a w/\σ.tr=s.tr/\σ.stop=s.stop/\(∀ k,σ.get k=ov gW rs b (λj=>listed.getD j false) s.get k)/\(∀ k,σ.look k=ov oW rs b (λj=>listed.getD j false) s.look k)) ->
  wpAnyIn (zaF ro) 0 P .any ops QX fuel listed a w:=by
 obtain ⟨hlen,htr,hst,hget,hlook⟩:=zDX hch b;have hrec:∀ (i:Nat),i < l.length->∃ x,rs[i]?=some x/\L[b+i]?=some x.o:=λi hi=>by
  have hx:=xab (l:=rs) (i:=i) (by omega)
  obtain ⟨si,g1,_⟩:=zDY hch b i _ hx;exact ⟨_,hx,hL i _ g1⟩
 refine zwu hcomp hLl (λi o h1 h2 h3 e he=>?_) hbar (I:=λS a w=>∃ (C:Ctx) (σ:St),RelC X C σ.get σ.look σ.tr σ.stop a w/\σ.tr=s.tr/\σ.stop=s.stop/\(∀ k,σ.get k=ov gW rs b S s.get k)/\(∀ k,σ.look k=ov oW rs b S s.look k)) ?_ ?_
 ·obtain ⟨x,hx,hLx⟩:=hrec (i - b) (by omega)
  rw [show b+(i - b)=i by omega,h3] at hLx;injection hLx with hLx
  have:=zsx hok hx e (by rw [<-hLx];exact he);omega
 ·rintro fuel listed a w hs hl hd ⟨C,σ,h,h1,h2,h3,h4⟩;have hall:∀ j x,rs[j]?=some x->listed.getD (b+j) false=true:=λj x hx=>by
   have:=(xaa.1 hx).1;rw [hd];exact decide_eq_true (by omega)
  rw [show σ.get=s'.get from funext λk=>by rw [h3 k,hget k];exact zcT (λj x hx _=>hall j x hx) rfl,
   show σ.look=s'.look from funext λk=>by rw [h4 k,hlook k];exact zcT (λj x hx _=>hall j x hx) rfl,h1,h2,<-htr,<-hst] at h
  exact hQ fuel listed C a w hs hl hd h
 ·rintro S S' a w oper o ii hii hLo hcx hun haf hc hS ⟨C,σ,hrel,e1,e2,e3,e4⟩ K hK;obtain ⟨x,hx,hLx⟩:=hrec ii hii;rw [hLo] at hLx;injection hLx with hLx;subst hLx;obtain ⟨si,_,k2,k3,k4,k5⟩:=zDY hch b ii x hx;have hcR:∀ j y,rs[j]?=some y->S (b+j)=true->∀ e ∈ y.o.after,S e=true:=λj y hy hj=>by
   obtain ⟨y',hy',hLy⟩:=hrec j (by rw [<-hlen];exact (xaa.1 hy).1)
   rw [hy] at hy';injection hy' with hy';subst hy';exact hc (b+j) _ hLy hj
  have hbef:=fun {j y}=>zyn (j:=j) (y:=y) (λi j x y h=>zsy hok h) hcR hx haf hun
  have hT:∀ k,k ∈ x.rT\/k ∈ x.wT->∀ j y,rs[j]?=some y->(gW y k).isSome=true->S (b+j)=decide (j < ii):=λk hk j y hy hw=>hbef hy (cf_T (zxH hw) hk)
  have hO:∀ k,k ∈ x.ro\/k ∈ x.wO->∀ j y,rs[j]?=some y->(oW y k).isSome=true->S (b+j)=decide (j < ii):=λk hk j y hy hw=>hbef hy (cf_O (zxB hw) hk)
  have aT:∀ k,k ∈ x.rT\/k ∈ x.wT->σ.get k=si.get k:=λk hk=>by
   rw [e3 k,k4 k];exact zcT (λj y hy hw=>by rw [hT k hk j y hy hw];simp only [decide_eq_decide];omega) rfl
  have aO:∀ k,k ∈ x.ro\/k ∈ x.wO->σ.look k=si.look k:=λk hk=>by
   rw [e4 k,k5 k];exact zcT (λj y hy hw=>by rw [hO k hk j y hy hw];simp only [decide_eq_decide];omega) rfl
  have hsem:zb3 P σ x.o x.v x.wr:=zlD k2 (λt ht=>aT t (.inl ht)) (λk hk=>aO k (.inl (by rw [k3];exact hk))) (aO _ (.inr xar)) (λk hk=>aO k (.inr (xaJ _ hk)))
  refine zcF (X:=X) (s:=σ) hsem hcx rfl hM hrel λC' a' w' hr'=>hK a' w' ⟨C',(σ.wrs x.wr).set x.o.dst x.v,?_,?_,?_,λk=>?_,λk=>?_⟩
  ·rw [(zX _ _ _).1,(zaQ _ _).1,(zX _ _ _).2,(zaQ _ _).2];exact hr'
  ·rw [(zX _ _ _).1,(zaQ _ _).1];exact e1
  ·rw [(zX _ _ _).2,(zaQ _ _).2];exact e2
  ·rw [zi8 σ x k];exact zqh hx hS (e3 k) λh=>hT k (.inr (zxH h))
  ·rw [zgo σ x k];exact zqh hx hS (e4 k) λh=>hO k (.inr (zxB h))
def Rec.ft (x:Rec):Ft:=⟨x.o.dst.toList,rdT x.o,x.o.dst.getD 0::x.wr.map (·.1),x.ro,x.o.after,false⟩
def cfF (x y:Ft):Bool:=zeq x.wt y.rt || zeq x.wt y.wt || zeq x.rt y.wt || zeq x.wo y.ro || zeq x.wo y.wo || zeq x.ro y.wo
def zwz (fs:List Ft):Nat->Nat->Nat->Bool
 | 0,_,_=>false
 | f+1,i,j=>match fs[j]? with
  | some x=>x.af.contains i || x.af.any λm=>zwz fs f i m
  | none=>false
def ylOk (fs:List Ft) (p:Nat):Bool:=
 ((List.range p).all λi=>(List.range (p+1)).any λk=>decide (i < k) && match fs[k]? with|some y=>y.af.contains i|none=>false) &&
 (List.range fs.length).all λj=>decide (j<=p) || match fs[j]? with|some y=>y.af.any λe=>decide (p<=e)|none=>false
def zcR (fs:List Ft):Bool:=
 (List.range fs.length).all λj=>match fs[j]? with
  | some y=>(y.af.all λe=>decide (e < j)) && if y.yl then ylOk fs j else (List.range j).all λi=>match fs[i]? with
   | some x=>x.yl || !cfF x y || zwz fs 3 i j
   | none=>true
  | none=>true
theorem zDZ (x y:Rec):cfF x.ft y.ft=cf x y:=rfl
theorem zcm {fs:List Ft} (h:zcR fs=true) {j:Nat} {y:Ft} (hy:fs[j]?=some y):(∀ e ∈ y.af,e < j)/\(y.yl=true->ylOk fs j=true)/\(y.yl=false->∀ i x,i < j->fs[i]?=some x->x.yl=false->cfF x y=true->zwz fs 3 i j=true):=by
 have hj:j < fs.length:=(xaa.1 hy).1;simp only [zcR,xaD,xaO] at h;have:=h j hj;rw [hy] at this;simp only [xam,xaD,decide_eq_true_eq] at this;refine ⟨this.1,λe=>by have:=this.2;rwa [if_pos e] at this,λe i x hi hx hxl hc=>?_⟩
 have:=this.2;rw [if_neg (by simp [e])] at this
 simp only [xaD,xaO] at this;have:=this i hi;rw [hx] at this;simpa [hxl,hc] using this
theorem zsC {fs:List Ft} (hlt:∀ (j:Nat) (y:Ft),fs[j]?=some y->∀ e ∈ y.af,e < j):∀ (f i j:Nat),zwz fs f i j=true->i < j
 | 0,_,_,h=>by simp [zwz] at h
 | f+1,i,j,h=>by
  simp only [zwz] at h;cases hy:fs[j]? with
  | none=>simp [hy] at h
  | some y=>
   simp only [hy,xaY,xbv] at h
   rcases h with h|⟨m,hm,h⟩
   ·exact hlt j y hy i (by simpa using h)
   ·have:=hlt j y hy m hm;have:=zsC hlt f i m h;omega
theorem znI {fs:List Ft} {b:Nat} {rs:List Rec} (hlt:∀ (j:Nat) (y:Ft),fs[j]?=some y->∀ e ∈ y.af,e < j) (hseg:∀ (j:Nat) (x:Rec),rs[j]?=some x->fs[b+j]?=some x.ft):∀ (f i j:Nat),j < rs.length->zwz fs f (b+i) (b+j)=true->dep b rs f i j=true
 | 0,_,_,_,h=>by simp [zwz] at h
 | f+1,i,j,hj,h=>by
  have hx:=xab hj;have hy:=hseg j _ hx;simp only [zwz,hy,xaY,xbv] at h;simp only [dep,hx,xaY,xbv,xam,decide_eq_true_eq]
  rcases h with h|⟨m,hm,h⟩
  ·exact .inl h
  ·have h1:=hlt _ _ hy m hm;have h2:=zsC hlt f _ m h;exact .inr ⟨m,hm,by omega,znI hlt hseg f i (m - b) (by omega) (by rw [show b+(m - b)=m by omega];exact h)⟩
theorem ze6 {fs:List Ft} {b:Nat} {rs:List Rec} (h:zcR fs=true) (hseg:∀ (j:Nat) (x:Rec),rs[j]?=some x->fs[b+j]?=some x.ft):zgP b rs=true:=by
 have hlt:∀ (j:Nat) (y:Ft),fs[j]?=some y->∀ e ∈ y.af,e < j:=λj y hy=>(zcm h hy).1
 simp only [zgP,xaD,xaO];intro j hj;have hx:=xab hj;have hy:=hseg j _ hx;rw [hx];simp only [xam,xaD,decide_eq_true_eq,xaO];refine ⟨hlt _ _ hy,λi hi=>?_⟩
 have hxi:=xab (l:=rs) (i:=i) (by omega)
 have hyi:=hseg i _ hxi;rw [hxi];simp only [xaY,xaX];cases hc:cf rs[i] rs[j] with
 | false=>exact .inl rfl
 | true=>exact .inr (znI hlt hseg 3 i j hj ((zcm h hy).2.2 rfl (b+i) _ (by omega) hyi rfl (by rw [zDZ];exact hc)))
theorem zc5 {P:Program} {ts:List (List PV)} {K:St->List Ft->Prop}:∀ {l:List RO} {s:St} {acc:List Ft},zj P ts true K l s acc ->
  (∃ rs s',Ch P l s rs s'/\K s' ((rs.map Rec.ft).reverse++acc)) \/
  ∃ l1 o l2 rs s1 t ks,l=l1++o::l2/\Ch P l1 s rs s1/\YOp ts s1 o t ks/\∀ b,zj P ts true K l2 (ySt s1 o t ks b) (accY true ((rs.map Rec.ft).reverse++acc) o)
 | [],s,acc,h=>.inl ⟨[],s,.nil s,by simpa [zj] using h⟩
 | o::r,s,acc,.inl ⟨v,wr,h1,h2⟩=>by
  have e:∀ rs:List Rec,((⟨o,v,wr,rdO s o⟩::rs:List Rec).map Rec.ft).reverse++acc=(rs.map Rec.ft).reverse++z5 true acc s o wr:=λrs=>by simp [z5,zC6,Rec.ft]
  rcases zc5 h2 with ⟨rs,s',h3,h4⟩|⟨l1,o',l2,rs,s1,t,ks,h3,h4,h5,h6⟩
  ·exact .inl ⟨_,s',.cons h1 h3,by rw [e];exact h4⟩
  ·exact .inr ⟨o::l1,o',l2,_,s1,t,ks,by rw [h3];rfl,.cons h1 h4,h5,λb=>by rw [e];exact h6 b⟩
 | o::r,s,acc,.inr (.inr (.inl ⟨h,_⟩))=>by cases h
 | o::r,s,acc,.inr (.inr (.inr ⟨h,_⟩))=>by cases h
 | o::r,s,acc,.inr (.inl ⟨t,ks,h1,h2⟩)=>.inr ⟨[],o,r,[],s,t,ks,rfl,.nil s,h1,λb=>by simpa using h2 b⟩
theorem zf8 {P:Program} {ts:List (List PV)} {K:St->List Ft->Prop}:∀ {l:List RO} {s:St} {acc:List Ft},zj P ts true K l s acc ->
  ∃ (s':St) (fs:List Ft),K s' (fs.reverse++acc)/\fs.length=l.length/\∀ (j:Nat) (o:RO),l[j]?=some o->∃ y,fs[j]?=some y/\y.af=o.after
 | [],s,acc,h=>⟨s,[],by simpa [zj] using h,rfl,λj o hj=>by simp at hj⟩
 | o::r,s,acc,h=>by
  have key:∀ (ft:Ft) (s1:St),ft.af=o.after->zj P ts true K r s1 (ft::acc)->∃ (s':St) (fs:List Ft),K s' (fs.reverse++acc)/\fs.length=(o::r).length/\∀ (j:Nat) (o':RO),(o::r)[j]?=some o'->∃ y,fs[j]?=some y/\y.af=o'.after:=λft s1 e h=>by
   obtain ⟨s',fs,h1,h2,h3⟩:=zf8 h;refine ⟨s',ft::fs,by simpa using h1,by simp [h2],λj o' hj=>?_⟩
   cases j with
   | zero=>simp at hj;subst hj;exact ⟨ft,rfl,e⟩
   | succ j=>exact h3 j o' (by simpa using hj)
  rcases h with ⟨v,wr,h1,h2⟩|⟨t,ks,h1,h2⟩|⟨h,_⟩|⟨h,_⟩
  ·exact key _ _ rfl h2
  ·exact key _ _ rfl (h2 true)
  ·cases h
  ·cases h
theorem zxW {P:Program} {l:List RO} {s s':St} {rs:List Rec} (h:Ch P l s rs s'):rs.length=l.length/\∀ (j:Nat) (o:RO),l[j]?=some o->∃ x,rs[j]?=some x/\x.o=o:=by
 induction h with
 | nil=>exact ⟨rfl,λj o hj=>by simp at hj⟩
 | @cons o r s s' v wr rs hs hch ih=>
  refine ⟨by simp [ih.1],λj o' hj=>?_⟩
  cases j with
  | zero=>simp at hj;subst hj;exact ⟨_,rfl,rfl⟩
  | succ j=>exact ih.2 j o' (by simpa using hj)
theorem zwv {P:Program} {ts:List (List PV)} {ro:Option Nat} {X:Fx} {ops:Array Oper} (hM:X.MOk) (hy:ts=[]∨(zeF P X ts∧zdn X.J X.Jx)) {L:List RO} (hcomp:zbi P X.N ops ops.toList=some L)
  {QX:Exit→Act→World→Prop}:∀ (n:Nat) (l:List RO) (b:Nat) (s:St) (acc:List Ft),l.length≤n→L.drop b=l→b≤L.length→acc.length=b→(∀ (j:Nat) (o:RO),j < b→L[j]?=some o→∃ y:Ft,acc.reverse[j]?=some y∧y.af=o.after) →
  zj P ts true (fun s acc=>zcR acc.reverse=true∧∀ C a w,RelC X C s.get s.look s.tr s.stop a w→QX .normal a w) l s acc →
  ∀ (fuel:Nat) (listed:Array Bool) (C:Ctx) (a:Act) (w:World),listed.size=ops.size→zi4 listed ops.size≤fuel→(∀ j,listed.getD j false=decide (j < b))→RelC X C s.get s.look s.tr s.stop a w→wpAnyIn (zaF ro) 0 P .any ops QX fuel listed a w:=by
 intro n
 induction n with
 | zero=>
  intro l b s acc hl hLb hbL hacc haf hrun fuel listed C a w hs hle hlisted hr
  have:l=[]:=xaq (by omega)
  subst this
  obtain ⟨hcl,hcg⟩:=zbq hcomp
  have hLe:L.length≤b:=by have:=congrArg List.length hLb;simp at this;omega
  have hsz:ops.size=L.length:=by rw [←hcl];simp
  have hall:∀ i,i < ops.size→listed.getD i false=true:=fun i hi=>by
   rw [hlisted]
   simp
   omega
  have hno:Region.ready .any ops listed=[]:=xb7.2 fun i hi=>by
   obtain ⟨oper,h1,h2,_⟩:=zbv.1 hi
   have hlt:=(xaR.1 h1).1
   have:=hall i hlt
   rw [xap,xan (by omega)] at this h2
   simp only [xa1] at this h2
   rw [this] at h2;cases h2
  have hq:=hrun.2 C a w hr
  cases fuel with
  | zero=>exact ⟨hno,hq⟩
  | succ fuel=>exact ⟨fun _=>hq,fun i hi=>by rw [hno] at hi;cases hi⟩
 | succ n ih=>
  intro l b s acc hl hLb hbL hacc haf hrun fuel listed C a w hs hle hlisted hr
  obtain ⟨hcl,hcg⟩:=zbq hcomp
  have hn:L.length=ops.size:=by rw [←hcl];simp
  have hLl:∀ j,l[j]?=L[b+j]?:=fun j=>by rw [←hLb,xaI]
  have hlen:b+l.length=L.length:=by have:=congrArg List.length hLb;simp at this;omega
  have hstart:∀ (rs:List Rec),∃ (C:Ctx) (σ:St),RelC X C σ.get σ.look σ.tr σ.stop a w∧σ.tr=s.tr∧σ.stop=s.stop∧(∀ k,σ.get k=ov gW rs b (fun j=>listed.getD j false) s.get k)∧(∀ k,σ.look k=ov oW rs b (fun j=>listed.getD j false) s.look k):=fun rs=>
   ⟨C,s,hr,rfl,rfl,fun k=>(zcD fun j hj=>by rw [hlisted];simp;omega).symm,fun k=>(zcD fun j hj=>by rw [hlisted];simp;omega).symm⟩
  have hdown:∀ (j:Nat) (o:RO),L[j]?=some o→(∀ e ∈ o.after,e < j)→listed.getD j false=true→∀ e ∈ o.after,listed.getD e false=true:=fun j o hj hlt hl e he=>by
   rw [hlisted] at hl ⊢
   have:=hlt e he
   simp at hl ⊢;omega
  rcases zc5 hrun with ⟨rs,s',hch,hok,hQ⟩|⟨l1,o,l2,rs,s1,t,ks,he,hch,hyo,hrest⟩
  ·-- no call of yield any more
   obtain ⟨c1,c2⟩:=zxW hch
   rw [List.reverse_append,List.reverse_reverse] at hok
   have hseg:∀ (j:Nat) (x:Rec),rs[j]?=some x→(acc.reverse++rs.map Rec.ft)[b+j]?=some x.ft:=fun j x hx=>by
    rw [xas (by simp [hacc])]
    simp [hacc,hx]
   have hF:∀ (j:Nat) (o:RO),L[j]?=some o→∃ y:Ft,(acc.reverse++rs.map Rec.ft)[j]?=some y∧y.af=o.after:=fun j o hj=>by
    by_cases e:j < b
    ·obtain ⟨y,h1,h2⟩:=haf j o e hj
     exact ⟨y,by rw [xaz (by simp [hacc,e])];exact h1,h2⟩
    ·obtain ⟨x,h1,h2⟩:=c2 (j - b) o (by rw [hLl,show b+(j - b)=j by omega];exact hj)
     have:=hseg _ _ h1
     rw [show b+(j - b)=j by omega] at this
     exact ⟨_,this,by rw [←h2];rfl⟩
   refine zjk hM hch (ze6 hok hseg) hcomp (fun j o hj=>by rw [←hLl];exact hj) (by omega) (fun S _ _ i o hi hLi=>?_) (fun fuel listed C a w h1 h2 h3 h4=>?_) fuel listed a w hs hle (fun j hj=>by rw [hlisted];simp [hj]) (fun j hj=>by rw [hlisted];simp;omega) (fun j o hj=>hdown j o hj fun e he=>?_) (hstart rs)
   ·have:=(xaa.1 hLi).1;omega
   ·have hall:∀ i,i < ops.size→listed.getD i false=true:=fun i hi=>by rw [h3];simp;omega
    have hno:Region.ready .any ops listed=[]:=xb7.2 fun i hi=>by
     obtain ⟨oper,g1,g2,_⟩:=zbv.1 hi
     have hlt:=(xaR.1 g1).1
     have:=hall i hlt
     rw [xap,xan (by omega)] at this g2
     simp only [xa1] at this g2
     rw [this] at g2;cases g2
    have hq:=hQ C a w h4
    cases fuel with
    | zero=>exact ⟨hno,hq⟩
    | succ fuel=>exact ⟨fun _=>hq,fun i hi=>by rw [hno] at hi;cases hi⟩
   ·obtain ⟨y,k1,k2⟩:=hF j o hj
    exact (zcm hok k1).1 e (by rw [k2];exact he)
  ·-- up to a call of yield
   subst he
   obtain ⟨c1,c2⟩:=zxW hch
   obtain ⟨s',fs,⟨hok,_⟩,hfl,hfa⟩:=zf8 (hrest true)
   let q:=b+l1.length
   let fy:Ft:=⟨o.dst.toList,rdT o,[],[],o.after,true⟩
   let F:=acc.reverse++rs.map Rec.ft++fy::fs
   have hF0:(fs.reverse++accY true ((rs.map Rec.ft).reverse++acc) o).reverse=F:=by simp [accY,F,fy]
   rw [hF0] at hok
   have hLq:L[q]?=some o:=by
    have:=hLl l1.length
    rw [←this];simp
   have hFq:F[q]?=some fy:=by
    show (acc.reverse++rs.map Rec.ft++fy::fs)[q]?=_
    rw [xas (by simp [hacc,c1,q])]
    simp [hacc,c1,q]
   have hseg:∀ (j:Nat) (x:Rec),rs[j]?=some x→F[b+j]?=some x.ft:=fun j x hx=>by
    have hj:=(xaa.1 hx).1
    show (acc.reverse++rs.map Rec.ft++fy::fs)[b+j]?=_
    rw [xaz (by simp [hacc];omega),xas (by simp [hacc])]
    simp [hacc,hx]
   have hF:∀ (j:Nat) (o':RO),L[j]?=some o'→∃ y:Ft,F[j]?=some y∧y.af=o'.after:=fun j o' hj=>by
    by_cases e:j < b
    ·obtain ⟨y,h1,h2⟩:=haf j o' e hj
     refine ⟨y,?_,h2⟩
     show (acc.reverse++rs.map Rec.ft++fy::fs)[j]?=_
     rw [xaz (by simp [hacc];omega),xaz (by simp [hacc,e])]
     exact h1
    ·by_cases e1:j < q
     ·have:l1[j - b]?=some o':=by
       have h3:=hLl (j - b)
       rw [show b+(j - b)=j by omega,hj,xaz (by simp only [q] at e1;omega)] at h3
       exact h3
      obtain ⟨x,h1,h2⟩:=c2 (j - b) o' this
      have:=hseg _ _ h1
      rw [show b+(j - b)=j by omega] at this
      exact ⟨_,this,by rw [←h2];rfl⟩
     ·by_cases e2:j=q
      ·subst e2;rw [hLq] at hj;injection hj with hj;subst hj;exact ⟨_,hFq,rfl⟩
      ·have:l2[j - q - 1]?=some o':=by
        have h3:=hLl (j - b)
        rw [show b+(j - b)=j by omega,hj,xas (by simp only [q] at e1;omega),show j - b - l1.length=(j - q - 1)+1 by simp only [q] at e1 e2 ⊢;omega] at h3
        simpa using h3
       obtain ⟨y,h1,h2⟩:=hfa _ _ this
       refine ⟨y,?_,h2⟩
       show (acc.reverse++rs.map Rec.ft++fy::fs)[j]?=_
       rw [xas (by simp [hacc,c1];simp only [q] at e1;omega)]
       simp only [xad,List.length_reverse,hacc,xaf,c1]
       rw [show j - (b+l1.length)=(j - q - 1)+1 by simp only [q] at e1 e2 ⊢;omega]
       simpa using h1
   have hlt:∀ (j:Nat) (o':RO),L[j]?=some o'→∀ e ∈ o'.after,e < j:=fun j o' hj e he=>by
    obtain ⟨y,k1,k2⟩:=hF j o' hj
    exact (zcm hok k1).1 e (by rw [k2];exact he)
   have hyl:=(zcm hok hFq).2.1 rfl
   simp only [ylOk,xam,xaD,xaO,xbv,decide_eq_true_eq,xaY] at hyl
   obtain ⟨hbefore,hbehind⟩:=hyl
   have hbehind':∀ (j:Nat) (o':RO),q < j→L[j]?=some o'→∃ e ∈ o'.after,q≤e:=fun j o' hqj hj=>by
    obtain ⟨y,k1,k2⟩:=hF j o' hj
    have:=hbehind j (xaa.1 k1).1
    rw [k1] at this
    rcases this with h|h
    ·omega
    ·simp only [xbv,decide_eq_true_eq] at h
     obtain ⟨e,h1,h2⟩:=h
     exact ⟨e,by rw [←k2];exact h1,h2⟩
   have hbefore':∀ i,i < q→∃ (k:Nat) (o':RO),i < k∧k≤q∧L[k]?=some o'∧i ∈ o'.after:=fun i hi=>by
    obtain ⟨k,hk,hik,h⟩:=hbefore i hi
    have hkL:k < L.length:=by have:=(xaa.1 hLq).1;omega
    have hLk:=xab hkL
    obtain ⟨y,k1,k2⟩:=hF k _ hLk
    rw [k1] at h
    exact ⟨k,_,hik,by omega,hLk,by rw [←k2];simpa using h⟩
   refine zjk hM hch (ze6 hok hseg) hcomp (fun j o' hj=>?_) (by have:=(xaa.1 hLq).1;simp only [q] at this;omega) (fun S hcl h0 i o' hi hLi hS=>?_) (fun fuel listed C a w h1 h2 h3 h4=>?_) fuel listed a w hs hle (fun j hj=>by rw [hlisted];simp [hj]) (fun j hj=>by rw [hlisted];simp;omega) (fun j o hj=>hdown j o hj (hlt j o hj)) (hstart rs)
   ·rw [←hLl,xaz (xaa.1 hj).1];exact hj
   ·-- nothing behind is ready before all ahead is done
    have hSq:∀ e ∈ o.after,S e=true:=by
     have key:∀ (m i:Nat) (o':RO),i≤m→q≤i→L[i]?=some o'→(∀ e ∈ o'.after,S e=true)→∀ e ∈ o.after,S e=true:=by
      intro m
      induction m with
      | zero=>
           intro i o' hm hq2 hLi hS2
           have:i=q:=by omega
           subst this;rw [hLq] at hLi;injection hLi with hLi;subst hLi;exact hS2
      | succ m ihm=>
       intro i o' hm hq2 hLi hS2
       by_cases e:i=q
       ·subst e;rw [hLq] at hLi;injection hLi with hLi;subst hLi;exact hS2
       ·obtain ⟨e2,h1,h2⟩:=hbehind' i o' (by omega) hLi
        have he2:=hlt i o' hLi e2 h1
        have hLe:=xab (l:=L) (i:=e2) (by have:=(xaa.1 hLi).1;omega)
        exact ihm e2 _ (by omega) h2 hLe (hcl e2 _ hLe (hS2 e2 h1))
     exact key i i o' (xah _) hi hLi hS
    have key:∀ m j,q - j≤m→j < q→S j=true:=by
     intro m
     induction m with
     | zero=>intro j h1 h2;omega
     | succ m ihm=>
      intro j h1 h2
      obtain ⟨k,o2,g1,g2,g3,g4⟩:=hbefore' j h2
      by_cases e:k=q
      ·subst e;rw [hLq] at g3;injection g3 with g3;subst g3;exact hSq j g4
      ·exact hcl k o2 g3 (ihm k (by omega) (by omega)) j g4
    exact fun j hj=>key (q - j) j (xah _) hj
   ·-- the call of yield
    have hqlt:q < ops.size:=by rw [←hn];exact (xaa.1 hLq).1
    have hlq:listed.getD q false=false:=by rw [h3];simp [q]
    cases fuel with
    | zero=>have:=zka (Nat.le_zero.1 h2) q hqlt;rw [this] at hlq;cases hlq
    | succ fuel=>
     have hready:∀ i,i ∈ Region.ready .any ops listed→i=q:=fun i hi=>by
      obtain ⟨oper,g1,g2,g3⟩:=zbv.1 hi
      have hilt:=(xaR.1 g1).1
      have hun:listed.getD i false=false:=by
       rw [xap,xan (by omega)] at g2 ⊢
       exact g2
      rw [h3] at hun
      simp at hun
      obtain ⟨o',hLo,hcx⟩:=hcg i oper (by simpa using g1)
      have haf2:=(zdJ (zak hcx) (listed:=fun e=>listed.getD e false)).1 g3
      refine xbk fun hne=>?_
      obtain ⟨e,he,hqe⟩:=hbehind' i o' (by simp only [q] at *;omega) hLo
      have:=haf2 e he
      rw [h3] at this
      simp at this
      simp only [q] at hqe;omega
     have hoper:=xan hqlt
     obtain ⟨o',hLo,hcx⟩:=hcg q _ (by rw [Array.getElem?_toList];exact hoper)
     rw [hLq] at hLo;injection hLo with hLo;subst hLo
     have hmem:q ∈ Region.ready .any ops listed:=zbv.2 ⟨_,hoper,by
      rw [xap] at hlq ⊢
      rw [xan (by omega)] at hlq ⊢
      exact hlq,(zdJ (zak hcx) (listed:=fun e=>listed.getD e false)).2 fun e he=>by rw [h3];have:=hlt q o hLq e he;simp;simp only [q] at this;omega⟩
     refine ⟨fun hr0=>(by rw [hr0] at hmem;cases hmem),fun i hi=>?_⟩
     have hiq:=hready i hi
     subst hiq
     unfold wpOpIn
     rw [hoper]
     rcases hy with hy|⟨hy,hj⟩
     ·obtain ⟨_,_,_,_,_,_,_,_,_,_,_,post,hts⟩:=hyo
      rw [hy] at hts
      simp at hts
     refine zfZ hyo hcx rfl hM hy hj h4 fun bb C' a' w' h'=>?_
     have e1:(ySt s1 o t ks bb).tr=s1.tr++[t]:=(zX _ _ _).1
     have e2:(ySt s1 o t ks bb).stop=!bb:=(zX _ _ _).2
     rw [←e1,←e2] at h'
     refine ih l2 (q+1) _ _ (by simp at hl;omega) ?_ (by rw [hn];omega) (by simp [accY,hacc,c1,q];omega) (fun j o' hj hLj=>?_) (hrest bb) fuel _ C' a' w' (by simpa using h1) (by have:=zi3 hqlt h1 hlq;omega) (fun j=>?_) h'
     ·have:=congrArg (List.drop (l1.length+1)) hLb
      rw [xbB] at this
      rw [show q+1=b+(l1.length+1) by simp only [q];omega,this]
      simp
     ·obtain ⟨y,k1,k2⟩:=hF j o' hLj
      refine ⟨y,?_,k2⟩
      rw [show (accY true ((rs.map Rec.ft).reverse++acc) o).reverse=acc.reverse++rs.map Rec.ft++[fy] by simp [accY,fy]]
      have:F=(acc.reverse++rs.map Rec.ft++[fy])++fs:=by simp [F]
      rw [this,xaz (by simp [hacc,c1];simp only [q] at hj;omega)] at k1
      exact k1
     ·rw [zi9 (by omega),h3]
      by_cases e:j=q
      ·rw [if_pos e];subst e;simp
      ·rw [if_neg e];simp only [decide_eq_decide];simp only [q] at *;omega
theorem zt9 {G:Cfg} {s:St} {Q:zZ} {l:List RO} (hm:G.P.follows .mixedOrders=true) (h:∀ K:St->List Ft->Prop,(∀ s acc,zcR acc.reverse=true->Q .normal s->K s acc)->zJ true (zj G.P G.ts true K) l s []):Run G (.ops true l) s Q:=by
 intro hG code hc C a w hr;cases code<;>simp only [zP,xac] at hc
 case region id ops draw=>
  obtain ⟨l',h1,hc⟩:=hc;injection hc with e1 e2;subst e1;subst e2;have hrun:=zB (h (λs acc=>zcR acc.reverse=true/\∀ C a w,RelC G.X C s.get s.look s.tr s.stop a w->QQ G Q .normal a w) λs acc h1 h2=>⟨h1,λC a w hr=>⟨s,C,hr,h2⟩⟩)
  have hb:Below w.heap.size w { w with drawn:=w.drawn+1 }:=⟨rfl,rfl,rfl,xah _,λ_ _=>rfl⟩
  have hr1:=hr.grow hb C.B (λ_ h=>h) (λb hb=>.inl hb)
  refine wpIn_region_any hm ?_;refine zwv hG.mok hG.yok h1 l'.length l' 0 s [] (xah _) rfl (xa5 _) rfl (λj o hj=>by omega) hrun ops.size _ _ a _ (by simp) ?_ (λj=>?_) hr1
  ·unfold zi4;exact xaV (List.countP_le_length) (by simp)
  ·rw [xap]
   by_cases e:j < ops.size
   ·rw [xan (by simpa using e)];simp
   ·rw [Array.getElem?_eq_none (by simpa using e)];simp
 all_goals first|(cases hc;done)|(obtain ⟨_,_,hc⟩:=hc;cases hc;done)|(split at hc<;>cases hc;done)
def za8 (k:Nat) (q q':LV):Prop:=q'=q\/(q=.p .nilsl/\q'=.row k 0)
def zad (k:Nat):List LV->List LV->Prop
 | [],[]=>True
 | q::r,q'::r'=>za8 k q q'/\zad k r r'
 | _,_=>False
def zam (k:Nat) (s:St):List (Nat × LV)->Prop
 | []=>True
 | (t,v)::r=>za8 k (s.get t) v/\zam k s r
def zaj (k:Nat) (s:St):List (Nat × LObj)->Prop
 | []=>True
 | (j,.box cs fz)::r=>(match s.look j with|some (.box cs0 fz0)=>fz=fz0/\zad k cs0 cs|_=>False)/\zaj k s r
 | (j,o)::r=>s.look j=some o/\zaj k s r
def Own (k e sz:Nat) (s:St) (env:List (Nat × LV)) (obj:List (Nat × LObj)):Prop:=
 0 < sz/\s.look k=none/\zam k s env/\zaj k s obj/\scEnv (zp ((k,.row e sz [] false)::obj)) env/\scObj (zp ((k,.row e sz [] false)::obj)) obj
theorem zhD {k:Nat}:∀ {l l':List LV},zad k l l'->l.length=l'.length/\∀ (j:Nat) (q q':LV),l[j]?=some q->l'[j]?=some q'->za8 k q q'
 | [],[],_=>⟨rfl,λj q q' h=>by simp at h⟩
 | [],_::_,h=>h.elim
 | _::_,[],h=>h.elim
 | x::r,x'::r',h=>by
  obtain ⟨h1,h2⟩:=zhD h.2;refine ⟨by simp [h1],λj q q' hq hq'=>?_⟩
  cases j with
  | zero=>simp at hq hq';subst hq;subst hq';exact h.1
  | succ j=>exact h2 j q q' (by simpa using hq) (by simpa using hq')
theorem zhz {k:Nat} {s:St}:∀ {l:List (Nat × LV)},zam k s l->∀ t,za8 k (s.get t) (zaD l t)\/zaD l t=.any
 | [],_,t=>.inr rfl
 | (j,v)::r,h,t=>by
  simp only [zaD]
  split
  ·rename_i e;subst e;exact .inl h.1
  ·exact zhz h.2 t
theorem zgg {k:Nat} {s:St}:∀ {l:List (Nat × LObj)},zaj k s l->∀ j o,zp l j=some o->s.look j=some o\/∃ cs0 cs fz,s.look j=some (.box cs0 fz)/\o=.box cs fz/\zad k cs0 cs
 | [],_,j,o,h=>by simp [zp] at h
 | (i,u)::r,h,j,o,ho=>by
  simp only [zp] at ho
  split at ho
  ·rename_i e;subst e;injection ho with ho;subst ho;cases u with
   | box cs fz=>
    have h1:=h.1
    split at h1
    ·rename_i cs0 fz0 hl;obtain ⟨rfl,h2⟩:=h1;exact .inr ⟨cs0,cs,_,hl,rfl,h2⟩
    ·exact h1.elim
   | _=>exact .inl h.1
  ·refine zgg ?_ j o ho;cases u<;>exact h.2
theorem RelC.own {X:Fx} {C:Ctx} {a:Act} {w:World} {s:St} {k e sz:Nat} {env:List (Nat × LV)} {obj:List (Nat × LObj)} (h:RelC X C s.get s.look s.tr s.stop a w) (ho:Own k e sz s env obj) :
  ∃ C',RelC X C' (zaD env) (zp ((k,.row e sz [] false)::obj)) s.tr s.stop a w:=by
 obtain ⟨h0,hk,he,hob,hse,hso⟩:=ho
 let v:Value:=.slice none 0 0
 have h1:=h.lay (C':={ C with cur:=upd C.cur k v }) (d:=k) (o:=.row e sz [] false) hk rfl rfl rfl rfl rfl (λ_ _=>rfl) (λj hj=>zw _ _ hj) ⟨[],by
   show w.ownsRow 0 e sz (upd C.cur k v k) 0 [];rw [zi];exact World.ownsRow_nil w 0 e sz,.nil,by simp,h0⟩ trivial rfl (λb hb=>by simp [blk,zi,v,Value.ownBlock] at hb)
 let look1:=upd s.look k (some (LObj.row e sz [] false))
 have hnil:∀ (u:Value) (q q':LV),za8 k q q'->RepL w { C with cur:=upd C.cur k v } look1 u q->RepL w { C with cur:=upd C.cur k v } look1 u q':=λu q q' hq hr=>by
  rcases hq with rfl|⟨rfl,rfl⟩
  ·exact hr
  ·have:=zg hr;cases this;exact zc7 (zi _ _ _)
 let l':=zp ((k,.row e sz [] false)::obj)
 have was:∀ j o,l' j=some o->∃ o1,look1 j=some o1/\(o1=o\/∃ cs0 cs fz,o1=.box cs0 fz/\o=.box cs fz/\zad k cs0 cs):=λj o hj=>by
  simp only [l',zp] at hj
  by_cases ej:j=k
  ·subst ej;rw [if_pos rfl] at hj;injection hj with hj;subst hj;exact ⟨_,zi _ _ _,.inl rfl⟩
  ·rw [if_neg ej] at hj
   rcases zgg hob j o hj with h2|⟨cs0,cs,fz,h2,h3,h4⟩
   ·exact ⟨o,by rw [show look1 j=s.look j from zw _ _ ej];exact h2,.inl rfl⟩
   ·exact ⟨_,by rw [show look1 j=s.look j from zw _ _ ej];exact h2,.inr ⟨cs0,cs,fz,rfl,h3,h4⟩⟩
 have rows:∀ j e2 s2 xs fz,l' j=some (.row e2 s2 xs fz)->look1 j=some (.row e2 s2 xs fz):=λj e2 s2 xs fz hj=>by
  obtain ⟨o1,h2,rfl|⟨cs0,cs,fz',_,h4,_⟩⟩:=was j _ hj
  ·exact h2
  ·cases h4
 have re:∀ u q,RepL w { C with cur:=upd C.cur k v } look1 u q->RepL w { C with cur:=upd C.cur k v } l' u q:=λu q hq=>by
  induction hq with
  | p h=>exact .p h
  | g h h2 ih=>exact .g ih h2
  | lp=>exact .lp
  | row h=>exact .row λe2 s2 xs fz hj=>h e2 s2 xs fz (rows _ _ _ _ _ hj)
  | ep h=>exact .ep λe2 s2 xs fz hj=>h e2 s2 xs fz (rows _ _ _ _ _ hj)
  | it=>exact .it
  | lm=>exact .lm
  | fn h1 h2 _ _ ih1 ih2=>exact .fn h1 h2 ih1 ih2
  | agg h1 _ ih=>exact .agg h1 ih
  | tup h1 _ ih=>exact .tup h1 ih
  | yield=>exact .yield
  | any u=>exact .any u
 have same:∀ j o,l' j=some o->∃ o1,look1 j=some o1/\(∀ C2:Ctx,blk C2 j o1=blk C2 j o)/\o1.frozen=o.frozen:=λj o hj=>by
  obtain ⟨o1,h2,rfl|⟨cs0,cs,fz,rfl,rfl,_⟩⟩:=was j o hj
  ·exact ⟨_,h2,λ_=>rfl,rfl⟩
  ·exact ⟨_,h2,λ_=>rfl,rfl⟩
 refine ⟨{ C with cur:=upd C.cur k v },{ h1 with
  env:=λt=>re _ _ ?_
  envs:=zce hse
  obj:=λj o hj=>?_
  objs:=λj o hj=>?_
  sep:=λj o b hj hb=>?_
  dis:=λj j' o o' b hne hj hj' hb hb'=>?_
  marks:=h1.marks.same λr _ _ hnb hnd hno=>⟨rfl,hnb,hnd,λj o hj hb=>?_⟩
  nn:=λj o b hj hb hf=>?_ }⟩
 ·rcases zhz he t with h2|h2
  ·exact hnil _ _ _ h2 (h1.env t)
  ·rw [h2];exact .any _
 ·obtain ⟨o1,h2,rfl|⟨cs0,cs,fz,rfl,rfl,h3⟩⟩:=was j o hj
  ·have:=h1.obj j _ h2;cases o1 with
   | box cs fz=>
    obtain ⟨arr,ty,g1,g2,g3⟩:=this;exact ⟨arr,ty,g1,g2,λi u q hu hq=>re _ _ (g3 i u q hu hq)⟩
   | _=>exact this
  ·obtain ⟨arr,ty,g1,g2,g3⟩:=h1.obj j _ h2;obtain ⟨f1,f2⟩:=zhD h3;refine ⟨arr,ty,g1,by omega,λi u q hu hq=>re _ _ ?_⟩
   have hi:i < cs0.length:=by rw [f1];exact (xaa.1 hq).1
   exact hnil _ _ _ (f2 i _ _ (xab hi) hq) (g3 i u _ hu (xab hi))
 ·simp only [zp] at hj
  by_cases ej:j=k
  ·subst ej;rw [if_pos rfl] at hj;injection hj with hj;subst hj;trivial
  ·rw [if_neg ej] at hj;exact za4 hso j o hj
 ·obtain ⟨o1,h2,h3,h4⟩:=same j o hj;rw [<-h4];exact h1.sep j o1 b h2 (by rw [h3];exact hb)
 ·obtain ⟨o1,h2,h3,_⟩:=same j o hj;obtain ⟨o2,g2,g3,_⟩:=same j' o' hj';exact h1.dis j j' o1 o2 b hne h2 g2 (by rw [h3];exact hb) (by rw [g3];exact hb')
 ·obtain ⟨o1,h2,h3,_⟩:=same j o hj;exact hno j o1 h2 (by rw [h3];exact hb)
 ·obtain ⟨o1,h2,h3,h4⟩:=same j o hj;exact h1.nn j o1 b h2 (by rw [h3];exact hb) (by rw [h4];exact hf)
theorem zaf {G:Cfg} {c:AC} {s:St} {Q:zZ} (k e sz:Nat) (env:List (Nat × LV)) (obj:List (Nat × LObj)) (ho:Own k e sz s env obj) (h:Run G c ⟨env,(k,.row e sz [] false)::obj,s.tr,s.stop⟩ Q):Run G c s Q:=by
 intro hG code hc C a w hr;obtain ⟨C',h'⟩:=hr.own ho;exact h hG code hc C' a w h'
def zx5 (P:Program) (f:Nat) (caps:List PV) (ts:List (List PV)):Prop:=
 zb8 P f/\∀ (w:World) (B:Nat->Prop) (y:Nat) (vs:List Value) (J:List (List PV)->(Nat->Prop)->(Nat->Prop)->World->Prop) (Jx:List (List PV)->(Nat->Prop)->World->Prop) (D O:Nat->Prop),
  (∀ b,B b->b < w.heap.size)->Reps w B vs caps->(∀ b,D b->b < w.heap.size)->(∀ b,O b->¬B b/\D b)->zdn J Jx->zfY P y B w.heap.size J Jx ts->J [] D O w ->
  Calls P f (.func (.yield y) #[] #[]::vs).toArray w λe w'=>(∃ u,e=.returned u)/\((∃ D' O',J ts D' O' w')\/∃ pre D',Jx pre D' w')
def zbY (caps:List PV):St:=⟨(0,.yield)::((caps.zipIdx 1).map λx=>(x.2,.p x.1)),[],[],false⟩
def zC0 (ts:List (List PV)):zZ
 | .normal,s=>s.stop=true\/s.tr=ts
 | .ret,s=>s.stop=true\/s.tr=ts
 | .exit _,_=>False
theorem zlT {P : Program} {f : FuncId} {fn : Func} {body : Code} {c : AC} {caps : List PV} {ts : List (List PV)} (hf : P.funcs[f]? = some fn) (hname : (fn.name == "runtime.NumGoroutine") = false) (hb : fn.body = some body)
  (hc:zP P fn.ntmps body=some c) (hrs:zaP P fn.results.toList=some []) (hn:caps.length+1≤fn.ntmps) (hgb:fn.ntmps≤GB)
  (hrun:wfs caps→∀ X:Fx,X.N=fn.ntmps→Run ⟨P,X,none,ts⟩ c (zbY caps) (zC0 ts)):zx5 P f caps ts:=by
 refine ⟨⟨fn,body,hf,hname,hb⟩,fun w B y vs J Jx D O hB hvs hD hO hcl hy hJ=>callsIn_wide.1 (callsIn_of_wp_marks (F:=Fence.wide) (n:=0) hf hb trivial ?_ rfl)⟩
 let X:Fx:={ w0:=w,B0:=B,B1:=B,M:=fun _=>False,O0:=O,D0:=D,Bo:=B,no:=w.heap.size,N:=fn.ntmps,y:=y,J:=J,Jx:=Jx,gv:=fun _=>undef,K:=[] }
 have hlen:=hvs.1
 have hN:((.func (.yield y) #[] #[]::vs).toArray++Array.replicate (fn.ntmps - (.func (.yield y) #[] #[]::vs:List Value).toArray.size) undef).size=fn.ntmps:=by simp;omega
 have hget:∀ t,(zbY caps).get t=if t=0 then .yield else match caps[t - 1]? with|some v=>.p v|none=>.any:=fun t=>by
  have:=zg4 caps 1 t
  simp only [zbY,St.get,zaD]
  by_cases e:t=0
  ·rw [if_pos e,if_pos e]
  ·rw [if_neg e,if_neg e,this,if_pos (by omega)]
   try rfl
 have h0:RelC X { B:=B,ρ:=fun _=>0,cur:=fun _=>undef,y:=y,n:=w.heap.size,dep:=D,own:=O } (zbY caps).get (zbY caps).look [] false { tmps:=(.func (.yield y) #[] #[]::vs).toArray++Array.replicate (fn.ntmps - (.func (.yield y) #[] #[]::vs:List Value).toArray.size) undef,defers:=[] } w:=
  {
   kx:=KeepX.refl _ _
   yy:=rfl
   b0:=fun b h=>h
   blt:=hB
   bold:=fun b h _=>h
   borg:=fun b h=>.inl h
   no0:=xah _
   tsz:=hN
   ngb:=hgb
   env:=fun t=>by
    rw [hget]
    by_cases e:t=0
    ·subst e
     rw [if_pos rfl,zbb (by decide)]
     have:((.func (.yield y) #[] #[]::vs).toArray++Array.replicate (fn.ntmps - (.func (.yield y) #[] #[]::vs:List Value).toArray.size) undef).getD 0 undef=.func (.yield y) #[] #[]:=by
      rw [xap,xbX (by simp)]
      simp
     show RepL w _ _ (Array.getD _ 0 undef) _
     rw [this]
     exact .yield
    ·rw [if_neg e]
     split
     ·rename_i v hv
      obtain ⟨u,hu,hr⟩:=hvs.get hv
      have ht:t - 1 < caps.length:=(xaa.1 hv).1
      rw [zbb (by show t < GB;have:fn.ntmps≤GB:=hgb;omega)]
      have:((.func (.yield y) #[] #[]::vs).toArray++Array.replicate (fn.ntmps - (.func (.yield y) #[] #[]::vs:List Value).toArray.size) undef).getD t undef=u:=by
       rw [xap,xbX (by simp;omega)]
       rw [List.getElem?_toArray,show t=(t - 1)+1 by omega,xb9,hu]
       rfl
      show RepL w _ _ (Array.getD _ t undef) _
      rw [this]
      exact .p hr
     ·exact .any _
   envs:=fun t=>by
    rw [hget]
    split
    ·exact .yield
    ·split
     ·exact .p _
     ·exact .any
   obj:=fun k o hk=>by simp [zbY,St.look,zp] at hk
   objs:=fun k o hk=>by simp [zbY,St.look,zp] at hk
   sep:=fun k o b hk=>by simp [zbY,St.look,zp] at hk
   dis:=fun k k' o o' b _ hk=>by simp [zbY,St.look,zp] at hk
   marks:=fun p hp=>by cases hp
   nle:=xah _
   dn:=hD
   nn:=fun k o b hk=>by simp [zbY,St.look,zp] at hk
   ow:=hO
   oold:=fun _ h=>.inr h
   dold:=fun _ h=>.inl h
   jj:=.inr ⟨w,hJ,Kept.refl _ _⟩ }
 refine wpIn_mono (hrun hvs.wf X rfl ⟨⟨fun b h=>h.elim,fun b h=>h.elim⟩,.inr ⟨hy,hcl⟩,fun l h=>by cases h⟩ body hc _ _ _ h0) ?_
 rintro e a' w' ⟨s',C',hr',hq⟩
 have key:(s'.stop=true∨s'.tr=ts)→LeavesInM Fence.wide 0 P fn a'.tmps (fun e w'=>(∃ u,e=.returned u)∧((∃ D' O',J ts D' O' w')∨∃ pre D',Jx pre D' w')) a'.defers .returning w':=fun hq=>by
  refine zev (ro:=none) a'.defers a' w' rfl hr' fun w2 h2=>?_
  obtain ⟨us,hrun,hus⟩:=zeU (fn:=fn) (rs:=[]) hrs h2 rfl trivial
  refine ⟨_,hrun,⟨_,rfl⟩,?_⟩
  rcases h2.jj with hX|⟨wy,h3,h4⟩
  ·exact .inl ⟨D,O,(hX ts D O w2).1⟩
  ·cases hs:s'.stop with
   | true=>
    rw [hs,if_pos rfl] at h3
    exact .inr ⟨_,_,hcl.jx _ _ _ _ h3 h4⟩
   | false=>
    rw [hs,if_neg (by simp)] at h3
    rw [hs] at hq
    have hts:=hq.resolve_left (by simp)
    rw [hts] at h3
    exact .inl ⟨_,_,hcl.j _ _ _ _ _ h3 h4⟩
 cases e with
 | normal=>exact key hq
 | ret=>exact key hq
 | exit id=>exact hq.elim
 | goto l=>exact hq.elim
 | panic c=>exact hq.elim
 | outgrown=>exact hq.elim
theorem zi5 {P:Program} {f:FuncId} {c:AC} {n:Nat} (h:zeB P f=some (c,[],n)) {caps:List PV} {ts:List (List PV)} (hn:caps.length+1<=n) (hrun:wfs caps->∀ X:Fx,X.N=n->Run ⟨P,X,none,ts⟩ c (zbY caps) (zC0 ts)):zx5 P f caps ts:=by
 unfold zeB at h
 split at h
 ·rename_i fn hf
  split at h
  ·cases h
  ·rename_i hname
   split at h
   ·rename_i b hb
    split at h
    ·rename_i c' rs' hc hrs
     split at h
     case isFalse=>cases h
     rename_i hgb;injection h with h;injection h with e1 h;injection h with e2 e3;subst e1;subst e2;subst e3;exact zlT hf (by simpa using hname) hb hc hrs hn hgb hrun
    ·cases h
   ·cases h
 ·cases h
def zhI (ds:List Deferred):List (Nat × Obj):=ds.filterMap λd=>match d.target with|.collected r=>some (r,.deferred (some []))|_=>none
def zsB (X:Fx) (C:Ctx) (lk:Nat->Option LObj) (b:Nat):Prop:=b < X.w0.heap.size\/C.B b\/(∃ k o,lk k=some o/\blk C k o=some b)\/(∃ p ∈ X.K,p.1=b)\/C.dep b
def zxy (l:Nat) (C:Ctx) (lk:Nat->Option LObj) (b:Nat):Prop:=(∃ k o,lk k=some o/\o.frozen=false/\blk C k o=some b)\/b=l\/C.own b
section
variable {X:Fx} {C:Ctx} {g:Nat->LV} {lk:Nat->Option LObj} {tr:List (List PV)} {stop:Bool} {a:Act} {w w':World}
theorem RelC.kept (h:RelC X C g lk tr stop a w) (hd:a.defers=[]) (hk:Kept (zsB X C lk) w w'):RelC X C g lk tr stop a w':=by
 have hsz:=hk.size;have hB:∀ b,C.B b->w'.heap[b]?=w.heap[b]?:=λb hb=>hk.block b (.inr (.inl hb))
 have hrow:∀ k e sz xs fz,lk k=some (.row e sz xs fz)->∃ xs' fz',lk k=some (.row e sz xs' fz')/\(xs'.length=xs.length->C.cur k=C.cur k)/\xs.length<=xs'.length:=λk e sz xs fz hk=>⟨xs,fz,hk,λ_=>rfl,xah _⟩
 have hm:=h.marks;rw [hd] at hm;exact { h with
  kx:=⟨hk.os.trans h.kx.os,hk.tape.trans h.kx.tape,hk.output.trans h.kx.output,xaV h.kx.size hsz,λb hb hm=>(hk.block b (.inl hb)).trans (h.kx.block b hb hm)⟩
  blt:=λb hb=>xaA (h.blt b hb) hsz
  env:=λt=>(h.env t).same (λ_ h=>h) rfl hB (λ_ _ _=>rfl) hrow (h.envs t)
  obj:=λk o hk2=>(h.obj k o hk2).same (λ_ h=>h) rfl hB (λ_ _ _=>rfl) hrow hk2 (h.objs k o hk2) rfl (λb hb=>hk.block b (.inr (.inr (.inl ⟨k,o,hk2,hb⟩))))
  sep:=λk o b hk2 hb=>by
   obtain ⟨h1,h2,h3,h4⟩:=h.sep k o b hk2 hb;exact ⟨h1,xaA h2 hsz,h3,h4⟩
  marks:=by
   rw [hd];exact λp hp=>⟨(hk.block p.1 (.inr (.inr (.inr (.inl ⟨p,hp,rfl⟩))))).trans (hm p hp).1,(hm p hp).2⟩
  nle:=xaV h.nle hsz
  jj:=h.jj.imp id λ⟨wy,h1,h2⟩=>⟨wy,h1,h2.trans (hk.mono λb hb=>.inr (.inr (.inr (.inr hb))))⟩ }
theorem zAG (h:RelC X C g lk tr stop a w):∀ b,zsB X C lk b->b < w.heap.size:=λb hb=>by
 rcases hb with hb|hb|⟨k,o,hk,hb⟩|⟨p,hp,rfl⟩|hb
 ·exact xaA hb h.kx.size
 ·exact h.blt b hb
 ·exact (h.sep k o b hk hb).2.1
 ·exact h.marks.lt _ (.inr ⟨p,hp,rfl⟩)
 ·exact xaA (h.dn b hb) h.nle
theorem zvC {l:Nat} (h:RelC X C g lk tr stop a w) (hl:∃ p ∈ X.K,p.1=l):∀ b,zxy l C lk b->¬C.B b/\zsB X C lk b:=λb hb=>by
 rcases hb with ⟨k,o,hk,hf,hb⟩|rfl|hb
 ·exact ⟨(h.sep k o b hk hb).2.2.1 hf,.inr (.inr (.inl ⟨k,o,hk,hb⟩))⟩
 ·exact ⟨((h.marks.at b (.inr hl)).2).2.1,.inr (.inr (.inr (.inl hl)))⟩
 ·exact ⟨(h.ow b hb).1,.inr (.inr (.inr (.inr (h.ow b hb).2)))⟩
theorem zlK:∀ {ds:List Deferred},MarksOk w X C lk ds->∀ p ∈ zhI ds++X.K,w.heap[p.1]?=some p.2/\zg8 X C lk p.1
 | [],h,p,hp=>h p (by simpa [zhI] using hp)
 | d::ds,h,p,hp=>by
  obtain ⟨⟨r,h1,h2,h0,h3,h4,h5⟩,hr⟩:=h;simp only [zhI,xb8,h1,xaE,xaB] at hp
  rcases hp with rfl|hp
  ·exact ⟨h2,h3⟩
  ·exact zlK hr p hp
theorem zhM {w0 w1:World} {C1:Ctx} {l1:Nat->Option LObj}:∀ {ds:List Deferred},MarksOk w0 X C lk ds->(∀ p ∈ zhI ds++X.K,w1.heap[p.1]?=some p.2/\zg8 X C1 l1 p.1)->MarksOk w1 X C1 l1 ds
 | [],h,hk=>λp hp=>hk p (by simpa [zhI] using hp)
 | d::ds,h,hk=>by
  obtain ⟨⟨r,h1,h2,h0,h3,h4,h5⟩,hr⟩:=h;have hk':∀ p,p=(r,Obj.deferred (some []))\/p ∈ zhI ds++X.K->w1.heap[p.1]?=some p.2/\zg8 X C1 l1 p.1:=λp hp=>hk p (by
   simp only [zhI,xb8,h1,xaE,xaB];exact hp)
  obtain ⟨k1,k2⟩:=hk' _ (.inl rfl);exact ⟨⟨r,h1,k1,h0,k2,h4,h5⟩,zhM hr λp hp=>hk' p (.inr hp)⟩
theorem ziR:∀ {ds:List Deferred},MarksOk w X C lk ds->∀ p ∈ zhI ds++X.K,Mk X ds p.1
 | [],_,p,hp=>.inr ⟨p,by simpa [zhI] using hp,rfl⟩
 | d::ds,h,p,hp=>by
  obtain ⟨⟨r,h1,_⟩,hr⟩:=h;simp only [zhI,xb8,h1,xaE,xaB] at hp
  rcases hp with rfl|hp
  ·exact .inl ⟨d,xar,h1⟩
  ·exact (ziR hr p hp).imp (λ⟨x,hx,he⟩=>⟨x,xaJ _ hx,he⟩) id
def kX (X:Fx) (ds:List Deferred) (l:Nat) (o:Obj):Fx:={ X with K:=(l,o)::(zhI ds++X.K) }
theorem RelC.toK (h : RelC X C g lk tr stop a w) {l : Nat} {o : Obj} (hl : w.heap[l]? = some o) (ha : zg8 X C lk l) : RelC (kX X a.defers l o) C g lk tr stop { a with defers := [] } w :=
  { kx := h.kx, yy := h.yy, b0 := h.b0, blt := h.blt, bold := h.bold, borg := h.borg, no0 := h.no0, tsz := h.tsz, ngb := h.ngb, env := h.env, envs := h.envs, obj := h.obj, objs := h.objs, sep := h.sep, dis := h.dis, nle := h.nle, dn := h.dn, nn := h.nn, ow := h.ow, oold := h.oold, dold := h.dold, jj := h.jj,
    marks := λp hp => by
      rcases List.mem_cons.1 hp with rfl | hp
      · exact ⟨hl, ha⟩
      · exact zlK h.marks p hp }
theorem RelC.ofK {ds : List Deferred} {l : Nat} {o : Obj} {tm : Array Value} {w0 : World} {C0 : Ctx} {lk0 : Nat -> Option LObj} (h : RelC (kX X ds l o) C g lk tr stop { tmps := tm, defers := [] } w) (hm : MarksOk w0 X C0 lk0 ds) : RelC X C g lk tr stop { tmps := tm, defers := ds } w :=
  { kx := h.kx, yy := h.yy, b0 := h.b0, blt := h.blt, bold := h.bold, borg := h.borg, no0 := h.no0, tsz := h.tsz, ngb := h.ngb, env := h.env, envs := h.envs, obj := h.obj, objs := h.objs, sep := h.sep, dis := h.dis, nle := h.nle, dn := h.dn, nn := h.nn, ow := h.ow, oold := h.oold, dold := h.dold, jj := h.jj,
    marks := zhM hm λp hp => h.marks p (List.mem_cons_of_mem _ hp) }
theorem MarksOk.k:∀ {ds:List Deferred},MarksOk w X C lk ds->KOk w X C lk
 | [],h=>h
 | _::_,h=>MarksOk.k h.2
theorem RelC.setK {l:Nat} {o o':Obj} {r:List (Nat × Obj)} (h:RelC { X with K:=(l,o)::r } C g lk tr stop a w) (hl:∀ p ∈ r,p.1≠l) (ho:X.w0.heap.size<=l\/X.O0 l) :
  RelC { X with K:=(l,o')::r } C g lk tr stop a (w.putObj l o'):=by
 have hm:=h.marks.k;obtain ⟨hlw,hla⟩:=hm (l,o) xar;have hoth:∀ b,b≠l->(w.putObj l o').heap[b]?=w.heap[b]?:=λb hb=>World.putObj_heap_other hb
 have hB:∀ b,C.B b->(w.putObj l o').heap[b]?=w.heap[b]?:=λb hb=>hoth b λe=>hla.2.1 (e ▸ hb)
 have hrow:∀ k e sz xs fz,lk k=some (.row e sz xs fz)->∃ xs' fz',lk k=some (.row e sz xs' fz')/\(xs'.length=xs.length->C.cur k=C.cur k)/\xs.length<=xs'.length:=λk e sz xs fz hk=>⟨xs,fz,hk,λ_=>rfl,xah _⟩
 exact {
  kx:=⟨h.kx.os,h.kx.tape,h.kx.output,by simpa using h.kx.size,λb hb hmm=>(hoth b λe=>by
   replace hb:b < X.w0.heap.size:=hb
   subst e
   rcases ho with ho|ho
   ·omega
   ·exact hmm (.inr ho)).trans (h.kx.block b hb hmm)⟩
  yy:=h.yy
  b0:=h.b0
  blt:=λb hb=>by simpa using h.blt b hb
  bold:=h.bold
  borg:=h.borg
  no0:=h.no0
  tsz:=h.tsz
  ngb:=h.ngb
  env:=λt=>RepL.same (C:=C) (C':=C) (λ_ h=>h) rfl hB (λ_ _ _=>rfl) hrow (h.envs t) (h.env t)
  envs:=h.envs
  obj:=λk ob hk=>ObjRel.same (C:=C) (C':=C) (λ_ h=>h) rfl hB (λ_ _ _=>rfl) hrow hk (h.objs k ob hk) rfl (λb hb=>hoth b λe=>hla.2.2.2 k ob hk (e ▸ hb)) (h.obj k ob hk)
  objs:=h.objs
  sep:=λk ob b hk hb=>by simpa using h.sep k ob b hk hb
  dis:=h.dis
  marks:=by
   have hmm:=h.marks
   revert hmm
   generalize a.defers=ds;intro hmm
   induction ds with
   | nil=>
    intro p hp
    rcases xaB.1 hp with rfl|hp
    ·exact ⟨World.putObj_heap_same (Mk.lt_of hlw),hla⟩
    ·obtain ⟨h1,h2⟩:=hm p (xaJ _ hp);exact ⟨(hoth _ (hl p hp)).trans h1,h2⟩
   | cons d ds ih=>
    obtain ⟨⟨r',g1,g2,g0,g3,g4,g5⟩,gr⟩:=hmm;exact ⟨⟨r',g1,(hoth r' λe=>g5 (l,o) xar e.symm).trans g2,g0,g3,g4,λp hp=>by
     rcases xaB.1 hp with rfl|hp
     ·exact g5 (l,o) xar
     ·exact g5 p (xaJ _ hp)⟩,ih gr⟩
  nle:=by simpa using h.nle
  dn:=h.dn
  nn:=h.nn
  ow:=h.ow
  oold:=h.oold
  dold:=h.dold
  jj:=h.jj.imp id λ⟨wy,j1,j2⟩=>⟨wy,j1,j2.trans ⟨rfl,rfl,rfl,by simp,λb hb=>hoth b λe=>hla.2.2.1 (e ▸ hb)⟩⟩ }
def lowE (env:List (Nat × LV)):List (Nat × LV):=env.filter λx=>decide (x.1 < GB)
def ghosts (env:List (Nat × LV)):List (Nat × LV):=env.map λx=>(x.1+GB,x.2)
theorem zcS:∀ (env:List (Nat × LV)) (t:Nat),zaD (ghosts env) t=if t < GB then .any else zaD env (t - GB)
 | [],t=>by simp [ghosts,zaD]
 | (k,v)::r,t=>by
  have ih:=zcS r t;simp only [ghosts,xag,zaD] at ih ⊢;rw [ih]
  by_cases e:t < GB
  ·rw [if_pos e,if_pos e,if_neg (by omega)]
  ·rw [if_neg e,if_neg e]
   by_cases e2:t=k+GB
   ·rw [if_pos e2,if_pos (by omega)]
   ·rw [if_neg e2,if_neg (by omega)]
theorem znW:∀ (env:List (Nat × LV)) (t:Nat),zaD (lowE env) t=if t < GB then zaD env t else .any
 | [],t=>by simp [lowE,zaD]
 | (k,v)::r,t=>by
  have ih:=znW r t;simp only [lowE,xaW,zaD] at ih ⊢
  by_cases hk:k < GB
  ·rw [decide_eq_true hk,if_pos rfl];simp only [zaD]
   by_cases e:t=k
   ·subst e;rw [if_pos rfl,if_pos hk,if_pos rfl]
   ·rw [if_neg e,if_neg e];exact ih
  ·rw [decide_eq_false hk];simp only [xaT,if_false];rw [ih]
   by_cases e:t < GB
   ·rw [if_pos e,if_pos e,if_neg (by omega)]
   ·rw [if_neg e,if_neg e]
theorem zg6:∀ (l r:List (Nat × LV)) (t:Nat),(∀ x ∈ l,x.1 < GB)->¬t < GB->zaD (l++r) t=zaD r t
 | [],r,t,_,_=>rfl
 | (k,v)::l,r,t,h,ht=>by
  have:=h (k,v) xar;simp only [xaE,zaD];rw [if_neg (by simp only at this;omega)]
  exact zg6 l r t (λx hx=>h x (xaJ _ hx)) ht
theorem zg5:∀ (l r:List (Nat × LV)) (t:Nat),(∀ x ∈ r,¬x.1 < GB)->t < GB->zaD (l++r) t=zaD l t
 | [],r,t,h,ht=>by
  show zaD r t=.any
  induction r with
  | nil=>rfl
  | cons x r ih=>
   obtain ⟨k,v⟩:=x;have:=h (k,v) xar;simp only [zaD];rw [if_neg (by simp only at this;omega)]
   exact ih λx hx=>h x (xaJ _ hx)
 | (k,v)::l,r,t,h,ht=>by
  simp only [xaE,zaD]
  split
  ·rfl
  ·exact zg5 l r t h ht
theorem zh7 (env:List (Nat × LV)) (t:Nat):zaD (lowE env++ghosts env) t=if t < GB then zaD env t else zaD env (t - GB):=by
 by_cases e:t < GB
 ·rw [if_pos e,zg5 _ _ _ (λx hx=>?_) e,znW,if_pos e]
  obtain ⟨y,_,rfl⟩:=xa3.1 hx;simp
 ·rw [if_neg e,zg6 _ _ _ (λx hx=>?_) e,zcS,if_neg e]
  have:=xbM.1 hx;simpa using this.2
def rX (X : Fx) (a : Act) (C : Ctx) (lk : Nat -> Option LObj) (Bi : Nat -> Prop) (l : Nat) (W : World) : Fx :=
  { X with
    w0 := W
    B0 := λb => C.B b \/ Bi b
    B1 := λb => (C.B b \/ Bi b) \/ ∃ k o, lk k = some o /\ o.frozen = false /\ blk C k o = some b
    M := λb => ∃ k o, lk k = some o /\ o.frozen = false /\ blk C k o = some b
    O0 := λb => C.own b \/ b = l
    D0 := C.dep
    gv := λt => zb2 X a (t - GB) }
theorem zk6 (X:Fx) (a a':Act) (C:Ctx) (lk:Nat->Option LObj) (Bi:Nat->Prop) (l:Nat) (W:World) (t:Nat):zb2 (rX X a C lk Bi l W) a' (t+GB)=zb2 X a t:=by
 unfold zb2;rw [if_neg (by omega)]
 simp only [rX,zb2,xbq]
theorem zjA (X:Fx) (a a':Act) (C:Ctx) (lk:Nat->Option LObj) (Bi:Nat->Prop) (l:Nat) (W:World) (r:List (Nat × Obj)) (t:Nat):zb2 { rX X a C lk Bi l W with K:=r } a' (t+GB)=zb2 X a t:=by
 unfold zb2;rw [if_neg (by omega)]
 simp only [rX,zb2,xbq]
theorem zyX {Bi:Nat->Prop} {l:Nat} {r:List (Nat × Obj)} (hM:X.MOk) (h:RelC X C g lk tr stop a w):Fx.MOk { rX X a C lk Bi l w with K:=r }:=
 ⟨λb hb=>.inr hb,λb ⟨k,o,hk,hf,hb⟩=>((h.sep k o b hk hb).1 hf).elim (λe=>.inr (xaV h.no0 e)) (hM.m2 b)⟩
theorem zuf {P:Program} {ts:List (List PV)} {Bi:Nat->Prop} {l:Nat} {r:Loop} {rest:List (Nat × Obj)} (hy:ts=[]\/(zfY P X.y X.Bo X.no X.J X.Jx ts/\zdn X.J X.Jx)) (hM:X.MOk) (h:RelC X C g lk tr stop a w) :
  Cfg.Ok ⟨P,{ rX X a C lk Bi l w with K:=(l,.loop r)::rest },some l,ts⟩ where
 mok:=zyX hM h
 yok:=by unfold zeF;exact hy
 lok:=λl' hl'=>by injection hl' with hl';subst hl';exact ⟨r,xar⟩
theorem RelC.enter {env:List (Nat × LV)} {l:Nat} {o:Obj} {r:List (Nat × Obj)} {Bi:Nat->Prop} (hK:X.K=(l,o)::r) (h:RelC X C (zaD env) lk tr stop a w) (hd:a.defers=[]) (hBi:∀ b,Bi b->b < w.heap.size/\¬zxy l C lk b/\(X.Bo b\/X.no<=b)) (hBk:∀ p ∈ X.K,¬Bi p.1) :
  RelC (rX X a C lk Bi l w) { C with B:=λb=>C.B b\/Bi b } (zaD (lowE env++ghosts env)) lk tr stop a w:=by
 have hBe:∀ b,C.B b->(λb=>C.B b\/Bi b) b:=λb hb=>.inl hb
 have hrow:∀ k e sz xs fz,lk k=some (.row e sz xs fz)->∃ xs' fz',lk k=some (.row e sz xs' fz')/\(xs'.length=xs.length->C.cur k=C.cur k)/\xs.length<=xs'.length:=λk e sz xs fz hk=>⟨xs,fz,hk,λ_=>rfl,xah _⟩
 have hblk:∀ k o,blk { C with B:=λb=>C.B b\/Bi b } k o=blk C k o:=λk o=>by cases o<;>rfl
 have hm:=h.marks;rw [hd] at hm;exact {
  kx:=KeepX.refl _ _
  yy:=h.yy
  b0:=λb hb=>hb
  blt:=λb hb=>hb.elim (h.blt b) λe=>(hBi b e).1
  bold:=λb hb _=>.inl hb
  borg:=λb hb=>hb.elim (h.borg b) λe=>(hBi b e).2.2
  no0:=xaV h.no0 h.kx.size
  tsz:=h.tsz
  ngb:=h.ngb
  env:=λt=>by
   rw [zh7]
   by_cases e:t < GB
   ·rw [if_pos e,zbb e];have:=h.env t;rw [zbb e] at this;exact RepL.same (C:=C) (C':={ C with B:=λb=>C.B b\/Bi b }) hBe rfl (λ_ _=>rfl) (λ_ _ _=>rfl) hrow (h.envs t) this
   ·rw [if_neg e];have h1:=zk6 X a a C lk Bi l w (t - GB);rw [show t - GB+GB=t by omega] at h1
    rw [h1];exact RepL.same (C:=C) (C':={ C with B:=λb=>C.B b\/Bi b }) hBe rfl (λ_ _=>rfl) (λ_ _ _=>rfl) hrow (h.envs _) (h.env _)
  envs:=λt=>by
   rw [zh7]
   split
   ·exact h.envs t
   ·exact h.envs _
  obj:=λk ob hk=>ObjRel.same (C:=C) (C':={ C with B:=λb=>C.B b\/Bi b }) hBe rfl (λ_ _=>rfl) (λ_ _ _=>rfl) hrow hk (h.objs k ob hk) rfl (λ_ _=>rfl) (h.obj k ob hk)
  objs:=h.objs
  sep:=λk ob b hk hb=>by
   rw [hblk] at hb;obtain ⟨h1,h2,h3,h4⟩:=h.sep k ob b hk hb;exact ⟨λhf=>.inr ⟨k,ob,hk,hf,hb⟩,h2,λhf hbb=>hbb.elim (h3 hf) λe=>(hBi b e).2.1 (.inl ⟨k,ob,hk,hf,hb⟩),λhf=>.inl (h4 hf)⟩
  dis:=λk k' ob ob' b hne hk hk' hb hb'=>h.dis k k' ob ob' b hne hk hk' (by rw [hblk] at hb;exact hb) (by rw [hblk] at hb';exact hb')
  marks:=by
   rw [hd];intro p hp;obtain ⟨h1,h2,h3,h4,h5⟩:=hm p hp;exact ⟨h1,h2,λhbb=>hbb.elim h3 (hBk p hp),h4,λk ob hk=>by rw [hblk];exact h5 k ob hk⟩
  nle:=h.nle
  dn:=h.dn
  nn:=λk ob b hk hb hf=>h.nn k ob b hk (by rw [hblk] at hb;exact hb) hf
  ow:=λb hb=>⟨λhbb=>hbb.elim (h.ow b hb).1 λe=>(hBi b e).2.1 (.inr (.inr hb)),(h.ow b hb).2⟩
  oold:=λb hb=>.inr (.inl hb)
  dold:=λb hb=>.inl hb
  jj:=h.jj }
theorem RelC.leave {env:List (Nat × LV)} {l:Nat} {o o':Obj} {r:List (Nat × Obj)} {Bi:Nat->Prop} {C3:Ctx} {lk3:Nat->Option LObj} {tr3:List (List PV)} {stop3:Bool} {a3:Act} {W3:World} (hM:X.MOk) (hK:X.K=(l,o)::r) (h:RelC X C (zaD env) lk tr stop a w) (hd:a.defers=[])
  (hl:X.w0.heap.size<=l) (hBi:∀ b,Bi b->b < X.w0.heap.size->X.B1 b)
  (h3:RelC { rX X a C lk Bi l w with K:=(l,o')::r } C3 (zaD (ghosts env)) lk3 tr3 stop3 a3 W3) :
  RelC { X with K:=(l,o')::r } C3 (zaD env) lk3 tr3 stop3 a W3/\Rnd (zsB X C lk) (zxy l C lk) Bi (zsB { X with K:=(l,o')::r } C3 lk3) (zxy l C3 lk3) w W3/\(∀ b,C.B b->C3.B b):=by
 have hsz:X.w0.heap.size<=w.heap.size:=h.kx.size;have hKe:∀ b,(∃ p ∈ (l,o')::r,p.1=b)↔∃ p ∈ X.K,p.1=b:=λb=>by rw [hK];simp
 have hM2:∀ b,(∃ k ob,lk k=some ob/\ob.frozen=false/\blk C k ob=some b)->X.w0.heap.size<=b\/X.M b:=λb ⟨k,ob,hk,hf,hb⟩=>(h.sep k ob b hk hb).1 hf
 have hB1:∀ b,C3.B b->b < w.heap.size->C.B b\/Bi b\/∃ k ob,lk k=some ob/\ob.frozen=false/\blk C k ob=some b:=λb hb hlt=>by
  rcases h3.bold b hb hlt with (e|e)|e
  ·exact .inl e
  ·exact .inr (.inl e)
  ·exact .inr (.inr e)
 have hsep3:∀ k ob b,lk3 k=some ob->blk C3 k ob=some b->ob.frozen=false->w.heap.size<=b\/∃ k ob,lk k=some ob/\ob.frozen=false/\blk C k ob=some b:=λk ob b hk hb hf=>(h3.sep k ob b hk hb).1 hf
 have hm3:=h3.marks.k;refine ⟨{
  kx:=⟨h3.kx.os.trans h.kx.os,h3.kx.tape.trans h.kx.tape,h3.kx.output.trans h.kx.output,xaV hsz h3.kx.size,λb hb hmm=>(h3.kx.block b (xaA hb hsz) λe=>by
   replace hb:b < X.w0.heap.size:=hb
   rcases e with e|e|e
   ·rcases hM2 b e with e|e
    ·omega
    ·exact hmm (.inl e)
   ·rcases h.oold b e with e|e
    ·omega
    ·exact hmm (.inr e)
   ·omega).trans (h.kx.block b hb hmm)⟩
  yy:=h3.yy
  b0:=λb hb=>h3.b0 b (.inl (h.b0 b hb))
  blt:=h3.blt
  bold:=λb hb hlt=>by
   rcases hB1 b hb (by show b < _;have:b < X.w0.heap.size:=hlt;omega) with e|e|e
   ·exact h.bold b e hlt
   ·exact hBi b e hlt
   ·rcases hM2 b e with e|e
    ·have:b < X.w0.heap.size:=hlt;omega
    ·exact hM.m1 b e
  borg:=h3.borg
  no0:=h.no0
  tsz:=h.tsz
  ngb:=h.ngb
  env:=λt=>by
   have:=h3.env (t+GB);rw [zjA,zcS,if_neg (by omega),xbq] at this
   exact this
  envs:=λt=>by
   have:=h3.envs (t+GB);rw [zcS,if_neg (by omega),xbq] at this
   exact this
  obj:=h3.obj
  objs:=h3.objs
  sep:=λk ob b hk hb=>by
   obtain ⟨h1,h2,g3,g4⟩:=h3.sep k ob b hk hb;exact ⟨λhf=>(h1 hf).elim (λe=>.inl (xaV hsz e)) (hM2 b),h2,g3,g4⟩
  dis:=h3.dis
  marks:=by rw [hd];exact hm3
  nle:=h3.nle
  dn:=h3.dn
  nn:=h3.nn
  ow:=h3.ow
  oold:=λb hb=>(h3.oold b hb).elim (λe=>.inl (xaV hsz e)) λe=>e.elim (h.oold b) λe=>.inl (by subst e;exact hl)
  dold:=λb hb=>(h3.dold b hb).elim (λe=>(h.dold b e).imp id (Or.imp id λe=>h3.b0 b (.inl e))) λe=>e.elim (λe=>.inr (.inl (xaV hsz e))) λe=>.inr (.inr e)
  jj:=h3.jj },⟨h3.kx.mono λb _ e=>?_,λb hb=>?_,λb hb=>?_,λb hb=>?_,λb hb=>?_⟩,λb hb=>h3.b0 b (.inl hb)⟩
 ·rcases e with e|e|e
  ·exact .inl e
  ·exact .inr (.inr e)
  ·exact .inr (.inl e)
 ·have hobj:∀ b,C3.B b->zsB X C lk b\/w.heap.size<=b\/Bi b:=λb hb=>by
   by_cases hlt:b < w.heap.size
   ·rcases hB1 b hb hlt with e|e|⟨k,ob,h1,h2,h4⟩
    ·exact .inl (.inr (.inl e))
    ·exact .inr (.inr e)
    ·exact .inl (.inr (.inr (.inl ⟨k,ob,h1,h4⟩)))
   ·exact .inr (.inl (by omega))
  rcases hb with hb|hb|⟨k,ob,hk,hb⟩|hb|hb
  ·exact .inl (.inl hb)
  ·exact hobj b hb
  ·cases hf:ob.frozen with
   | true=>exact hobj b ((h3.sep k ob b hk hb).2.2.2 hf)
   | false=>
    rcases hsep3 k ob b hk hb hf with e|⟨k,ob,h1,h2,h4⟩
    ·exact .inr (.inl e)
    ·exact .inl (.inr (.inr (.inl ⟨k,ob,h1,h4⟩)))
  ·exact .inl (.inr (.inr (.inr (.inl ((hKe b).1 hb)))))
  ·rcases h3.dold b hb with e|e|e
   ·exact .inl (.inr (.inr (.inr (.inr e))))
   ·exact .inr (.inl e)
   ·exact hobj b e
 ·rcases hb with hb|hb|⟨k,ob,hk,hb⟩|⟨p,hp,rfl⟩|hb
  ·exact xaA (xaA hb hsz) h3.kx.size
  ·exact h3.blt b hb
  ·exact (h3.sep k ob b hk hb).2.1
  ·exact Mk.lt_of (hm3 p hp).1
  ·exact xaA (h3.dn b hb) h3.nle
 ·rcases hb with ⟨k,ob,hk,hf,hb⟩|rfl|hb
  ·exact (hsep3 k ob b hk hb hf).elim .inr λe=>.inl (.inl e)
  ·exact .inl (.inr (.inl rfl))
  ·exact (h3.oold b hb).elim .inr λe=>e.elim (λe=>.inl (.inr (.inr e))) λe=>.inl (.inr (.inl e))
 ·rcases hb with ⟨k,ob,hk,hf,hb⟩|rfl|hb
  ·exact .inr (.inr (.inl ⟨k,ob,hk,hb⟩))
  ·exact .inr (.inr (.inr (.inl ⟨_,xar,rfl⟩)))
  ·exact .inr (.inr (.inr (.inr (h3.ow b hb).2)))
end
end Go.Proofs.YtocamnijnhnlfaaGreat
namespace Go.Proofs.YtocamnijnhnlfaaGreat
open Go.RowKit
def parEnv:List Nat->List PV->List (Nat × LV)->List (Nat × LV)
 | p::ps,v::vs,env=>parEnv ps vs ((p,.p v)::env)
 | _,_,env=>env
section
variable {X:Fx} {C:Ctx} {g:Nat->LV} {lk:Nat->Option LObj} {tr:List (List PV)} {stop:Bool} {a:Act} {w w':World} {P:Program}
theorem RelC.puts {ds:List Deferred}:∀ (ps:List Nat) (vs:List Value) (t:List PV) (env:List (Nat × LV)) (tm:Array Value),RelC X C (zaD env) lk tr stop { tmps:=tm,defers:=ds } w->Reps w C.B vs t->ps.length=t.length->(∀ p ∈ ps,p < X.N) ->
  RelC X C (zaD (parEnv ps t env)) lk tr stop { tmps:=(ps.zip vs).foldl (λtm x=>tm.setIfInBounds x.1 x.2) tm,defers:=ds } w
 | [],vs,t,env,tm,h,hv,hl,hp=>by simpa [parEnv] using h
 | p::ps,vs,[],env,tm,h,hv,hl,hp=>by simp at hl
 | p::ps,vs,v::t,env,tm,h,hv,hl,hp=>by
  obtain ⟨u,us,rfl,h1,h2⟩:=hv.cons_inv;have h3:=h.put (d:=p) (v:=u) (q:=.p v) (hp p xar) (.p h1) (.p v);rw [<-zkR] at h3;exact RelC.puts ps us t _ _ h3 h2 (by simpa using hl) λq hq=>hp q (xaJ _ hq)
theorem zpg {ro:Option Nat} (h:RelC X C g lk tr stop a w) (hlok:∀ l,ro=some l->∃ r,(l,Obj.loop r) ∈ X.K) (fn:FuncId) (ps:Array Tmp) (asg body:Code) :
  ∃ (l:Nat) (mark:List Deferred) (W1:World) (db:Nat),(Instr.enterLoop fn a.tmps ps asg body ro).run P w=.ok (l,mark) W1 /\
   W1.heap[l]?=some (.loop { state:=.ready,pending:=none,fn,tmps:=a.tmps,params:=ps,assign:=asg,body,defers:=db })/\RelC X C g lk tr stop { a with defers:=mark++a.defers } W1/\zg8 X C lk l/\w.heap.size<=l/\(∀ p ∈ zhI (mark++a.defers)++X.K,p.1≠l)/\Below w.heap.size w W1:=by
 have hapart:∀ r,w.heap.size<=r->zg8 X C lk r:=λr hr=>⟨by have:=h.no0;have:=h.kx.size;omega,λhb=>by have:=h.blt r hb;omega,λhd=>by have:=h.dn r hd;have:=h.nle;omega,λk o hk hb=>by have:=(h.sep k o r hk hb).2.1;omega⟩
 cases ro with
 | none=>
  have hb:Below w.heap.size w ((w.alloc (.deferred (some []))).alloc (.loop { state:=.ready,pending:=none,fn,tmps:=a.tmps,params:=ps,assign:=asg,body,defers:=w.heap.size })):=
   ((Below.refl _ w).alloc (xah _) _).alloc (by simp) _
  have h1:=h.grow hb C.B (λ_ h=>h) (λb hb=>.inl hb)
  have hD:((w.alloc (.deferred (some []))).alloc (.loop { state:=.ready,pending:=none,fn,tmps:=a.tmps,params:=ps,assign:=asg,body,defers:=w.heap.size })).heap[w.heap.size]?=some (.deferred (some [])):=
   (Below.heap_alloc _ _ _ (by simp)).trans (World.alloc_heap_new w _)
  refine ⟨w.heap.size+1,[{ target:=.collected w.heap.size,args:=#[] }],_,w.heap.size,run_enterLoop_outer _ _ _ _ _,?_,{ h1 with marks:=⟨⟨w.heap.size,rfl,hD,h.kx.size,hapart _ (xah _),λd hd he=>?_,λp hp he=>?_⟩,h1.marks⟩ },hapart _ (by omega),by omega,λp hp he=>?_,hb⟩
  ·have:=World.alloc_heap_new (w.alloc (.deferred (some []))) (.loop { state:=.ready,pending:=none,fn,tmps:=a.tmps,params:=ps,assign:=asg,body,defers:=w.heap.size })
   rwa [World.size_alloc] at this
  ·have:=h.marks.lt _ (.inl ⟨d,hd,he⟩);omega
  ·have:=h.marks.lt p.1 (.inr ⟨p,hp,rfl⟩);omega
  ·have:p ∈ (w.heap.size,Obj.deferred (some []))::(zhI a.defers++X.K):=by
    simpa [zhI] using hp
   rcases xaB.1 this with rfl|hp
   ·simp only at he;omega
   ·have:=h.marks.lt _ (ziR h.marks p hp);omega
 | some l0=>
  obtain ⟨r0,hr0⟩:=hlok l0 rfl;have hl0:=(zlK h.marks _ (xa0 _ hr0)).1;have hb:Below w.heap.size w (w.alloc (.loop { state:=.ready,pending:=none,fn,tmps:=a.tmps,params:=ps,assign:=asg,body,defers:=r0.defers })):=(Below.refl _ w).alloc (xah _) _;have h1:=h.grow hb C.B (λ_ h=>h) (λb hb=>.inl hb)
  refine ⟨w.heap.size,[],_,r0.defers,run_enterLoop_inner hl0 _ _ _ _ _,World.alloc_heap_new w _,{ h1 with marks:=h1.marks },hapart _ (xah _),xah _,λp hp he=>?_,hb⟩
  have:=h.marks.lt _ (ziR h.marks p hp);omega
attribute [local irreducible] zb2 GB
def asgK (K:St->Prop):zZ
 | .normal,s=>K s
 | _,_=>False
def roundI (env:List (Nat × LV)) (nx:St) (okn:Prop) (Q:zZ):zZ
 | .normal,s=>Cov s nx/\okn
 | .exit id,s=>Cov s ⟨ghosts env,s.obj,s.tr,s.stop⟩/\Q (.exit id) ⟨env,s.obj,s.tr,s.stop⟩
 | .ret,s=>Cov s ⟨ghosts env,s.obj,s.tr,s.stop⟩/\Q .ret ⟨env,s.obj,s.tr,s.stop⟩
def roundK (env:List (Nat × LV)) (nx:St) (Q:zZ):zZ:=roundI env nx True Q
theorem zoj {X:Fx} {ro:Option Nat} {ts0:List (List PV)} {s:St} {Q:zZ} {fop:AOpd} {params:List Nat} {asg body:AC} {gf:Nat} {caps:List PV} {ts:List (List PV)} (hf:fop.ev s=.p (.fn (.func gf) [] caps)) (hit:zx5 P gf caps ts)
  (hlen:∀ t ∈ ts,t.length=params.length) (hpar:∀ p ∈ params,p < X.N) (env:List (Nat × LV)) (obj:Nat→List (Nat × LObj)) (T:Nat→List (List PV)) (ok:Nat→Prop) (h0:Cov s ⟨env,obj 0,T 0,false⟩) (hok0:ok 0)
  (hround:∀ (k:Nat) (t:List PV),ts[k]?=some t→ok k→∀ (X':Fx) (ro':Option Nat),X'.N=X.N→Run ⟨P,X',ro',ts0⟩ asg ⟨parEnv params t (lowE env++ghosts env),obj k,T k,false⟩
   (asgK fun s1=>∀ (X':Fx),X'.N=X.N→Run ⟨P,X',ro',ts0⟩ body s1 (roundI env ⟨ghosts env,obj (k+1),T (k+1),false⟩ (ok (k+1)) Q)))
  (hend:ok ts.length→Q .normal ⟨env,obj ts.length,T ts.length,false⟩):Run ⟨P,X,ro,ts0⟩ (.rfunc fop params asg body) s Q:=by
 intro hG code hc C a w hr
 cases code<;>simp only [zP,xac] at hc
 case rangeFunc f0 ps asg0 body0=>
  split at hc
  case h_2=>cases hc
  rename_i f' x' y' hf0 h1 h2
  injection hc with hc;injection hc with e0 e1 e2 e3;subst e0;subst e1;subst e2;subst e3
  have hv:=(zaB hr rfl hf0).1
  rw [hf] at hv
  obtain ⟨fs,cs,hfe,hfs,hcs⟩:=zmI (zg hv)
  have hfs0:fs=#[]:=by simpa using hfs.nil_inv
  subst hfs0
  have hr0:RelC X C (zaD env) (zp (obj 0)) (T 0) false a w:=zea h0 hr
  refine wpIn_rangeFunc (F:=zaF ro) (n:=0) ?_
  intro fn hfn
  obtain ⟨l,mark,W1,db,henter,hl,R1,hap,hlw,hKl,hbel⟩:=zpg (P:=P) hr0 hG.lok fn ps asg0 body0
  obtain ⟨rec,hrec⟩:∃ rec:LoopState→Option Code→Loop,rec=fun st pe=>{ state:=st,pending:=pe,fn,tmps:=a.tmps,params:=ps,assign:=asg0,body:=body0,defers:=db }:=⟨_,rfl⟩
  obtain ⟨ds,hds⟩:∃ ds,ds=mark++a.defers:=⟨_,rfl⟩
  rw [←hds] at R1 hKl
  have hl1:W1.heap[l]?=some (.loop (rec .ready none)):=by rw [hrec];exact hl
  have hpend:∀ st pe,(rec st pe).pending=pe:=fun st pe=>by rw [hrec]
  have hbusy:∀ (jump:Option Code),({ ({ rec .ready none with state:=.busy }:Loop) with state:=if jump.isNone then .ready else .done,pending:=jump }:Loop)=rec (if jump.isNone then .ready else .done) jump:=fun jump=>by rw [hrec]
  let XK:Obj→Fx:=fun o=>kX X ds l o
  let a1:Act:={ tmps:=a.tmps,defers:=[] }
  have R1K:RelC (XK (.loop (rec .ready none))) C (zaD env) (zp (obj 0)) (T 0) false a1 W1:=R1.toK hl1 hap
  have hlX:X.w0.heap.size≤l:=xaV hr0.kx.size hlw
  have hMK:∀ o,(XK o).MOk:=fun o=>⟨hG.mok.m1,hG.mok.m2⟩
  let J:List (List PV)→(Nat→Prop)→(Nat→Prop)→World→Prop:=fun pre D O W=>∃ k C',pre=ts.take k∧(k≤ts.length∧ok k)∧RelC (XK (.loop (rec .ready none))) C' (zaD env) (zp (obj k)) (T k) false a1 W∧D=zsB (XK (.loop (rec .ready none))) C' (zp (obj k))∧O=zxy l C' (zp (obj k))∧(∀ b,C.B b→C'.B b)
  let Jx:List (List PV)→(Nat→Prop)→World→Prop:=fun pre D W=>∃ (c:Code) (C':Ctx) (s':St),RelC (XK (.loop (rec .done (some c)))) C' (zaD env) s'.look s'.tr s'.stop a1 W∧D=zsB (XK (.loop (rec .done (some c)))) C' s'.look ∧
   ((c=.ret∧Q .ret ⟨env,s'.obj,s'.tr,s'.stop⟩)∨∃ id,c=.exit id∧Q (.exit id) ⟨env,s'.obj,s'.tr,s'.stop⟩)
  have hcl:zdn J Jx:=⟨fun t D O w w' ⟨k,C',g1,g2,g3,g4,g5,g6⟩ hk=>⟨k,C',g1,g2,g3.kept rfl (by rw [←g4];exact hk),g4,g5,g6⟩,
   fun t D w w' ⟨c,C',s',g1,g2,g3⟩ hk=>⟨c,C',s',g1.kept rfl (by rw [←g2];exact hk),g2,g3⟩⟩
  have hK1:∀ b,(∃ p ∈ (XK (.loop (rec .ready none))).K,p.1=b)→b < W1.heap.size∧¬C.B b:=fun b hb=>by
   have:=R1K.marks.at b (.inr hb)
   exact ⟨this.1,this.2.2.1⟩
  have hres:(resolve a.eval (rangeCall f0 l) 0).run P W1=.ok { target:=.fn (.func gf) cs,args:=#[.func (.yield l) #[] #[]] } W1:=by
   have he:a.eval (.const (.func (.yield l) #[] #[]))=.func (.yield l) #[] #[]:=rfl
   simp [resolve,rangeCall,hfe,Deferred.ofValue,he]
  obtain ⟨⟨gfn,gc,hg1,hg2,hg3⟩,hit⟩:=hit
  have hinv:(invoke (.fn (.func gf) cs) #[.func (.yield l) #[] #[]]).run P W1=.ok (.enter gf (.func (.yield l) #[] #[]::cs.toList).toArray) W1:=by
   have h2' : ¬ gfn.name = "runtime.NumGoroutine" := by simpa using hg2
   simp [invoke,callFunc,hg1,h2',hg3]
  refine ⟨l,mark,W1,_,W1,gf,_,W1,henter,hres,fun _ _=>trivial,hinv,fun h=>by simp [zaF,Fence.wide] at h,?_⟩
  have hBlt:∀ b,C.B b→b < W1.heap.size:=fun b hb=>R1.blt b hb
  have hcall:=hit W1 C.B l cs.toList J Jx (zsB (XK (.loop (rec .ready none))) C (zp (obj 0))) (zxy l C (zp (obj 0))) hBlt (hcs.mono (fun _ h=>h) fun b hb=>hbel.block b (hr0.blt b hb))
   (zAG R1K) (zvC R1K ⟨_,xar,rfl⟩) hcl ?_ ⟨0,C,by simp,⟨xa5 _,hok0⟩,R1K,rfl,rfl,fun _ h=>h⟩
  ·-- behind the iterator
   have h4:CallsIn Fence.wide (0 - 1) P gf (.func (.yield l) #[] #[]::cs.toList).toArray W1 _:=callsIn_wide.2 hcall
   have hKne:∀ p ∈ zhI ds++X.K,p.1≠l:=hKl
   have h5:=CallsIn.mono h4 (R':=rangePost (zaF ro) 0 P l (QQ ⟨P,X,ro,ts0⟩ Q) { a with defers:=ds }) ?_
   ·rw [←hds];exact h5
   rintro e w' ⟨⟨v,rfl⟩,(⟨D',O',k,C',g1,g2,g3,_,_,_⟩|⟨pre,D',c,C',s',g1,_,g3⟩)⟩
   ·have hk:k=ts.length:=by
     have:=congrArg List.length g1
     rw [xaj] at this
     have:=g2.1
     omega
    subst hk
    have hlw':=((g3.marks:KOk _ _ _ _) (l,_) xar).1
    have hend2:=run_endLoop (P:=P) hlw' (by rw [hrec];simp)
    rw [hpend] at hend2
    refine ⟨none,_,hend2,?_⟩
    exact ⟨⟨env,obj ts.length,T ts.length,false⟩,C',RelC.ofK (g3.setK hKne (.inl hlX)) R1.marks,hend g2.2⟩
   ·have hlw':=((g1.marks:KOk _ _ _ _) (l,_) xar).1
    have hend2:=run_endLoop (P:=P) hlw' (by rw [hrec];simp)
    rw [hpend] at hend2
    refine ⟨some c,_,hend2,?_⟩
    rcases g3 with ⟨rfl,hq⟩|⟨id,rfl,hq⟩
    ·exact wpIn_ret ⟨⟨env,s'.obj,s'.tr,s'.stop⟩,C',RelC.ofK (g1.setK hKne (.inl hlX)) R1.marks,hq⟩
    ·exact wpIn_exit ⟨⟨env,s'.obj,s'.tr,s'.stop⟩,C',RelC.ofK (g1.setK hKne (.inl hlX)) R1.marks,hq⟩
  rintro pre t post D O W Bi args hts ⟨k,C',rfl,⟨hk,hokk⟩,R,rfl,rfl,hCB⟩ hBi hargs
  have htk:ts[k]?=some t:=by
   have:(ts.take k).length=k:=by rw [xaj];omega
   rw [hts,xas (by omega),this,Nat.sub_self]
   rfl
  have htl:t.length=ps.toList.length:=hlen t (xae htk)
  have hlW:=((R.marks:KOk _ _ _ _) (l,_) xar).1
  have hy:=run_yield (P:=P) (args:=args.toArray) hlW (by rw [hrec];simp;rw [hargs.1,htl];simp)
  have hBo:∀ b,Bi b→X.Bo b∨X.no≤b:=fun b hb=>(hBi b hb).2.2.elim (R1.borg b) fun e=>.inr (by have:=R1.no0;have:=R1.kx.size;omega)
  have hBk:∀ p ∈ (XK (.loop (rec .ready none))).K,¬Bi p.1:=fun p hp hb=>by
   obtain ⟨k1,k2⟩:=hK1 p.1 ⟨p,hp,rfl⟩
   exact (hBi _ hb).2.2.elim k2 fun e=>by omega
  have E:=R.enter (X:=XK (.loop (rec .ready none))) (Bi:=Bi) rfl rfl (fun b hb=>⟨(hBi b hb).1,(hBi b hb).2.1,hBo b hb⟩) hBk
  have E2:=RelC.puts (ds:=[]) ps.toList args t _ _ E (hargs.mono (fun b hb=>.inr hb) fun _ _=>rfl) htl.symm (fun p hp=>hpar p hp)
  have hfold:((rec .ready none).params.zip args.toArray).foldl (fun tmps (t,a)=>tmps.setIfInBounds t a) (rec .ready none).tmps=(ps.toList.zip args).foldl (fun tm x=>tm.setIfInBounds x.1 x.2) a.tmps:=by
   rw [hrec,←Array.foldl_toList,Array.toList_zip]
  have hr1:(rec .ready none).fn=fn:=by rw [hrec]
  have hr2:(rec .ready none).assign=asg0:=by rw [hrec]
  have hr3:(rec .ready none).body=body0:=by rw [hrec]
  have hy2:(Instr.yield l args.toArray).run P W=.ok (.round l fn ((ps.toList.zip args).foldl (fun tm x=>tm.setIfInBounds x.1 x.2) a.tmps) asg0 body0) W:=by
   rw [←hfold,←hr1,←hr2,←hr3];exact hy
  refine ⟨fn,_,asg0,body0,hy2,roundIn_of_wpIn trivial ?_⟩
  have hyok:ts0=[]∨(zfY P X.y X.Bo X.no X.J X.Jx ts0∧zdn X.J X.Jx):=hG.yok
  have hGr:∀ r:Loop,Cfg.Ok ⟨P,{ rX (XK (.loop (rec .ready none))) a1 C' (zp (obj k)) Bi l W with K:=(l,.loop r)::(zhI ds++X.K) },some l,ts0⟩:=fun r=>zuf (X:=XK (.loop (rec .ready none))) hyok (hMK _) R
  have hA:=hround k t htk hokk { rX (XK (.loop (rec .ready none))) a1 C' (zp (obj k)) Bi l W with K:=(l,.loop (rec .ready none))::(zhI ds++X.K) } (some l) rfl (hGr _) asg0 h1 _ { tmps:=(ps.toList.zip args).foldl (fun tm x=>tm.setIfInBounds x.1 x.2) a.tmps,defers:=[] } W E2
  have hfin:∀ (jump:Option Code) (C3:Ctx) (lk3:Nat→Option LObj) (tr3:List (List PV)) (st3:Bool) (a3:Act) (W3:World),RelC { rX (XK (.loop (rec .ready none))) a1 C' (zp (obj k)) Bi l W with K:=(l,.loop { rec .ready none with state:=.busy })::(zhI ds++X.K) } C3 (zaD (ghosts env)) lk3 tr3 st3 a3 W3 →
    ∃ W4,(Instr.endRound l jump).run P W3=.ok (.bool jump.isNone) W4∧RelC (XK (.loop (rec (if jump.isNone then .ready else .done) jump))) C3 (zaD env) lk3 tr3 st3 a1 W4 ∧
     Rnd (zsB (XK (.loop (rec .ready none))) C' (zp (obj k))) (zxy l C' (zp (obj k))) Bi (zsB (XK (.loop (rec (if jump.isNone then .ready else .done) jump))) C3 lk3) (zxy l C3 lk3) W W4∧(∀ b,C'.B b→C3.B b):=fun jump C3 lk3 tr3 st3 a3 W3 h3=>by
   have hm3:=h3.marks.k
   have hl3:=(hm3 (l,_) xar).1
   have hend3:=run_endRound (P:=P) jump hl3
   have h4:=h3.setK (o':=.loop (rec (if jump.isNone then .ready else .done) jump)) hKl (.inr (.inr rfl))
   obtain ⟨k1,k2,k3⟩:=RelC.leave (X:=XK (.loop (rec .ready none))) (hMK _) rfl R rfl hlX (fun b hb hlt=>(hBi b hb).2.2.elim (fun e=>R1.bold b e hlt) fun e=>by have:=R1.kx.size;have:b < X.w0.heap.size:=hlt;omega) h4
   rw [hbusy] at hend3
   exact ⟨_,hend3,k1,k2,k3⟩
  refine wpIn_mono (F:=zaF (some l)) hA ?_
  rintro e aa Wa ⟨sa,Ca,hra,hqa⟩
  cases e with
  | normal=>
   have hla:=(hra.marks.k (l,_) xar).1
   refine ⟨_,run_beginRound hla (by rw [hrec]),?_⟩
   have hrb:=RelC.setK (X:=rX (XK (.loop (rec .ready none))) a1 C' (zp (obj k)) Bi l W) (o:=.loop (rec .ready none)) (r:=zhI ds++X.K) hra (o':=.loop { rec .ready none with state:=.busy }) hKl (.inr (.inr rfl))
   have hBod:=hqa { rX (XK (.loop (rec .ready none))) a1 C' (zp (obj k)) Bi l W with K:=(l,.loop { rec .ready none with state:=.busy })::(zhI ds++X.K) } rfl (hGr _) body0 h2 _ aa _ hrb
   refine wpIn_mono (F:=zaF (some l)) hBod ?_
   rintro e a3 W3 ⟨s3,C3,h3,hq3⟩
   cases e with
   | normal=>
    have h3':RelC _ C3 (zaD (ghosts env)) (zp (obj (k+1))) (T (k+1)) false a3 W3:=zea hq3.1 h3
    obtain ⟨W4,g1,g2,g3,g4⟩:=hfin none C3 _ _ _ a3 W3 h3'
    refine ⟨_,W4,g1,true,rfl,?_⟩
    rw [if_pos rfl]
    have hk1:k+1≤ts.length:=(xaa.1 htk).1
    exact ⟨_,_,⟨k+1,C3,by rw [xaP,htk];rfl,⟨hk1,hq3.2⟩,g2,rfl,rfl,fun b hb=>g4 b (hCB b hb)⟩,g3⟩
   | exit id=>
    have h3':RelC _ C3 (zaD (ghosts env)) s3.look s3.tr s3.stop a3 W3:=zea hq3.1 h3
    obtain ⟨W4,g1,g2,g3,g4⟩:=hfin (some (.exit id)) C3 _ _ _ a3 W3 h3'
    refine ⟨_,W4,g1,false,rfl,?_⟩
    rw [if_neg (by simp)]
    exact ⟨_,⟨.exit id,C3,s3,g2,rfl,.inr ⟨id,rfl,hq3.2⟩⟩,⟨g3.kx,g3.d1,g3.d2,fun _ h=>h.elim,fun _ h=>h.elim⟩⟩
   | ret=>
    have h3':RelC _ C3 (zaD (ghosts env)) s3.look s3.tr s3.stop a3 W3:=zea hq3.1 h3
    obtain ⟨W4,g1,g2,g3,g4⟩:=hfin (some .ret) C3 _ _ _ a3 W3 h3'
    refine ⟨_,W4,g1,false,rfl,?_⟩
    rw [if_neg (by simp)]
    exact ⟨_,⟨.ret,C3,s3,g2,rfl,.inl ⟨rfl,hq3.2⟩⟩,⟨g3.kx,g3.d1,g3.d2,fun _ h=>h.elim,fun _ h=>h.elim⟩⟩
   | goto l=>exact hq3.elim
   | panic c=>exact hq3.elim
   | outgrown=>exact hq3.elim
  | exit id=>exact hqa.elim
  | ret=>exact hqa.elim
  | goto l=>exact hqa.elim
  | panic c=>exact hqa.elim
  | outgrown=>exact hqa.elim
 all_goals first|(cases hc;done)|(obtain ⟨_,_,hc⟩:=hc;cases hc;done)|(split at hc<;>cases hc;done)
theorem zeh {X:Fx} {ro:Option Nat} {ts0:List (List PV)} {s:St} {Q:zZ} {fop:AOpd} {params:List Nat} {asg body:AC} {gf:Nat} {caps:List PV} {ts:List (List PV)} (hf:fop.ev s=.p (.fn (.func gf) [] caps)) (hit:zx5 P gf caps ts)
  (hlen:∀ t ∈ ts,t.length=params.length) (hpar:∀ p ∈ params,p < X.N) (env:List (Nat × LV)) (obj:Nat->List (Nat × LObj)) (T:Nat->List (List PV)) (h0:Cov s ⟨env,obj 0,T 0,false⟩)
  (hround:∀ (k:Nat) (t:List PV),ts[k]?=some t->∀ (X':Fx) (ro':Option Nat),X'.N=X.N->Run ⟨P,X',ro',ts0⟩ asg ⟨parEnv params t (lowE env++ghosts env),obj k,T k,false⟩
   (asgK λs1=>∀ (X':Fx),X'.N=X.N->Run ⟨P,X',ro',ts0⟩ body s1 (roundK env ⟨ghosts env,obj (k+1),T (k+1),false⟩ Q)))
  (hend:Q .normal ⟨env,obj ts.length,T ts.length,false⟩):Run ⟨P,X,ro,ts0⟩ (.rfunc fop params asg body) s Q:=
 zoj hf hit hlen hpar env obj T (λ_=>True) h0 trivial (λk t ht _=>hround k t ht) λ_=>hend
end
end Go.Proofs.YtocamnijnhnlfaaGreat
namespace Go.Proofs.YtocamnijnhnlfaaGreat
open Go.RowKit
theorem aI {a b:Prop} (x:a) (y:b):a/\b:=⟨x,y⟩
theorem zuv (look:Nat->Option LObj) (k o:Nat):LV.known look (LV.lp k o)=True:=rfl
theorem zux (look:Nat->Option LObj) (k:Nat):LV.known look (LV.it k)=True:=rfl
theorem zuw (look:Nat->Option LObj) (k:Nat):LV.known look (LV.lm k)=True:=rfl
theorem zuy (look:Nat->Option LObj) (f:Fn) (a b:List LV):LV.known look (LV.fn f a b)=True:=rfl
theorem zq3 (look:Nat->Option LObj) (cs:List LV):LV.known look (LV.agg cs)=True:=rfl
theorem zlr (look:Nat->Option LObj) :LV.known look (LV.yield)=True:=rfl
theorem zuB (ys:List PV):eqCells [] ys=true:=rfl
theorem zyY {α:Type} (cs:List α) (off:Nat):updL cs off []=cs.take off++[]++cs.drop (off+([]:List α).length):=rfl
theorem zyZ {α:Type} (cs:List α) (off:Nat) (a b:α) (r:List α):updL cs off (a::b::r)=cs.take off++(a::b::r)++cs.drop (off+(a::b::r).length):=rfl
theorem zuz (cs vs:List PV):fillP cs [] vs=cs:=by cases vs<;>simp [fillP]
theorem zuA (xs vs:List PV):fillE xs [] vs=xs:=by cases vs<;>simp [fillE]
theorem zB8 (s:ByteArray) (p:Nat):(LObj.sit s p).freeze=.sit s p:=rfl
theorem zy2 (G:Cfg) (y:AC) (Q:zZ) (s:St):seqK G y Q .ret s=Q .ret s:=rfl
theorem zy3 (G:Cfg) (y:AC) (Q:zZ) (i:Nat) (s:St):seqK G y Q (.exit i) s=Q (.exit i) s:=rfl
theorem zut {κ:Type} (inv:κ->St) (ok:κ->Prop) (μ:κ->Nat) (k:κ) (Q:zZ) (s:St):loopK inv ok μ k Q .ret s=Q .ret s:=rfl
theorem zuu {κ:Type} (inv:κ->St) (ok:κ->Prop) (μ:κ->Nat) (k:κ) (Q:zZ) (i:Nat) (s:St):loopK inv ok μ k Q (.exit i) s=Q (.exit i) s:=rfl
theorem zy0:tupOf []=.tup []:=rfl
theorem zy1 (a b:PV) (r:List PV):tupOf (a::b::r)=.tup (a::b::r):=rfl
theorem zy6:boxPV []=.agg []:=rfl
theorem zy7 (a b:PV) (r:List PV):boxPV (a::b::r)=.agg (a::b::r):=rfl
theorem zB0 (look:Nat->Option LObj) (k:Nat) (e:TypeId) (sz:Nat) (xs:List PV) (f:Bool) (r:List (Nat × LObj)):scObj look ((k,.row e sz xs f)::r)=scObj look r:=rfl
theorem zBZ (look:Nat->Option LObj) (k:Nat) (s:ByteArray) (p:Nat) (r:List (Nat × LObj)):scObj look ((k,.sit s p)::r)=scObj look r:=rfl
theorem zB9 (a:List (PV × PV)) (c:Option (PV × PV)):(LObj.mit a c).freeze=.mit a c:=rfl
theorem zBX (look:Nat->Option LObj) (k:Nat) (a:List (PV × PV)) (c:Option (PV × PV)) (r:List (Nat × LObj)):scObj look ((k,.mit a c)::r)=scObj look r:=rfl
theorem zB3 (look:Nat->Option LObj) (a:List (PV × PV)) (c:Option (PV × PV)):lpK look (some (.mit a c))=[]:=rfl
theorem zBY (look:Nat->Option LObj) (k:Nat) (es:List (PV × PV)) (f:Bool) (r:List (Nat × LObj)):scObj look ((k,.mp es f)::r)=scObj look r:=rfl
theorem zB2 (f:Fn) (a b:List LV) (y:Option (List PV)):mfK f a b none y=some (True,Eff.ofV (LV.fn f a b)):=rfl
theorem zB1 (f:Fn) (a b:List LV) (x:List PV):mfK f a b (some x) none=some (True,Eff.ofV (LV.fn f a b)):=rfl
theorem zB7 (look:Nat->Option LObj):lpK look none=[]:=rfl
theorem zB6 (look:Nat->Option LObj) (e:TypeId) (sz:Nat) (xs:List PV) (f:Bool):lpK look (some (.row e sz xs f))=[]:=rfl
theorem zB5 (look:Nat->Option LObj) (s:ByteArray) (p:Nat):lpK look (some (.sit s p))=[]:=rfl
theorem zB4 (look:Nat->Option LObj) (es:List (PV × PV)) (f:Bool):lpK look (some (.mp es f))=[]:=rfl
theorem zy5 (vs:List PV) (e:List (Nat × LV)):parEnv [] vs e=e:=rfl
theorem zy4 (p:Nat) (ps:List Nat) (e:List (Nat × LV)):parEnv (p::ps) [] e=e:=rfl
theorem zCa (K:St->Prop) (s:St):asgK K .ret s=False:=rfl
theorem zCb (K:St->Prop) (i:Nat) (s:St):asgK K (.exit i) s=False:=rfl
theorem zlq  (a0:List PV) (l:List Nat):rdM (.alloc a0) l=l:=rfl
theorem zq0  (l:List Nat):rdM (.box) l=l:=rfl
theorem zlp  (a0:List PV) (a1:List (Nat × Nat)) (l:List Nat):rdM (.build a0 a1) l=l:=rfl
theorem zjR  (a0:Nat) (a1:Nat) (a2:PV) (a3:Nat) (a4:List Nat) (l:List Nat):rdM (.bslice a0 a1 a2 a3 a4) l=l:=rfl
theorem zoy  (a0:Nat) (a1:Bool) (l:List Nat):rdM (.load a0 a1) l=l:=rfl
theorem zlj  (a0:Nat) (l:List Nat):rdM (.store a0) l=l:=rfl
theorem zjQ  (l:List Nat):rdM (.nilchk) l=l:=rfl
theorem zq1  (a0:BinOp) (l:List Nat):rdM (.bin a0) l=l:=rfl
theorem zus  (a0:Bool) (a1:List Nat) (a2:Bool) (l:List Nat):rdM (.eq a0 a1 a2) l=l:=rfl
theorem zqT  (l:List Nat):rdM (.not) l=l:=rfl
theorem zqU  (l:List Nat):rdM (.neg) l=l:=rfl
theorem zqY  (a0:IntKind) (l:List Nat):rdM (.cvt a0) l=l:=rfl
theorem zqZ  (l:List Nat):rdM (.cvs) l=l:=rfl
theorem zox  (a0:Fn) (a1:Nat) (l:List Nat):rdM (.mkfn a0 a1) l=l:=rfl
theorem zjO  (a0:Bool) (a1:Bool) (l:List Nat):rdM (.sliceS a0 a1) l=l:=rfl
theorem zjP  (a0:Nat) (a1:Bool) (a2:Bool) (l:List Nat):rdM (.sliceL a0 a1 a2) l=l:=rfl
theorem zoC  (a0:Nat) (l:List Nat):rdM (.fadr a0) l=l:=rfl
theorem zqW  (a0:Nat) (a1:Nat) (a2:Bool) (l:List Nat):rdM (.fld a0 a1 a2) l=l:=rfl
theorem zoB  (a0:Nat) (a1:Nat) (a2:Bool) (l:List Nat):rdM (.idxA a0 a1 a2) l=l:=rfl
theorem zoA  (l:List Nat):rdM (.idxS) l=l:=rfl
theorem zlm  (a0:Nat) (l:List Nat):rdM (.iadrS a0) l=l:=rfl
theorem zln  (a0:Nat) (a1:Nat) (l:List Nat):rdM (.iadrA a0 a1) l=l:=rfl
theorem zqV  (a0:Bool) (l:List Nat):rdM (.len a0) l=l:=rfl
theorem zq2  (a0:Nat) (a1:Nat) (a2:Nat) (l:List Nat):rdM (.app a0 a1 a2) l=l:=rfl
theorem zuq  (l:List Nat):rdM (.mx) l=l:=rfl
theorem zur  (l:List Nat):rdM (.mn) l=l:=rfl
theorem zqX  (a0:Nat) (l:List Nat):rdM (.ext a0) l=l:=rfl
theorem zlk  (l:List Nat):rdM (.range) l=l:=rfl
theorem zov  (l:List Nat):rdM (.next) l=l:=rfl
theorem ziu  (a0:Nat) (a1:Nat) (a2:Nat) (a3:PV) (l:List Nat):rdM (.mkslice a0 a1 a2 a3) l=l:=rfl
theorem zoD  (a0:Nat) (l:List Nat):rdM (.copy a0) l=l:=rfl
theorem zll  (l:List Nat):rdM (.mkmap) l=l:=rfl
theorem zoz  (a0:List Nat) (a1:Bool) (a2:PV) (a3:Bool) (l:List Nat):rdM (.lkup a0 a1 a2 a3) l=l:=rfl
theorem zow  (a0:List Nat) (a1:Bool) (l:List Nat):rdM (.mset a0 a1) l=l:=rfl
theorem zoE  (a0:Nat) (l:List Nat):rdM (.call a0) l=l:=rfl
theorem zlo  (l:List Nat):rdM (.callv) l=l:=rfl
def q0:=aI (aI (aI (aI (aI @LV.known.eq_1 @LV.known.eq_2) (aI @LV.known.eq_3 (aI @LV.known.eq_4 @LV.known.eq_5))) (aI (aI @loadOk.eq_1 @loadV.eq_1) (aI @eqOk.eq_1 (aI @eqOk.eq_2 @eqOk.eq_3)))) (aI (aI (aI @eqPV.eq_1 @eqPV.eq_2) (aI @eqPV.eq_3 (aI @eqCells.eq_1 @eqCellsOk.eq_1))) (aI (aI @eqCellsOk.eq_2 @packL.eq_1) (aI @oneL.eq_1 (aI @oneL.eq_2 @oneL.eq_3))))) (aI (aI (aI (aI @oneL.eq_4 @oneL.eq_5) (aI @oneL.eq_6 (aI @oneL.eq_7 @oneL.eq_8))) (aI (aI @updL.eq_1 @fillP.eq_1) (aI @fillOk.eq_1 (aI @fillOk.eq_2 @fillE.eq_1)))) (aI (aI (aI @fillEOk.eq_1 @fillEOk.eq_2) (aI @oneAll.eq_1 (aI @List.all_map.{0,0} @LObj.freeze.eq_1))) (aI (aI @LObj.freeze.eq_2 @LObj.freeze.eq_3) (aI @frzs.eq_1 (aI @frzs.eq_2 @argSt.eq_1)))))
def q1:=aI (aI (aI (aI (aI @List.map.eq_1.{0,0} @List.map.eq_2.{0,0}) (aI @List.zipIdx.eq_1.{0} (aI @List.zipIdx.eq_2.{0} @List.length.eq_1.{0}))) (aI (aI @List.length.eq_2.{0} @List.take.eq_1.{0}) (aI @List.take.eq_2.{0} (aI @List.take.eq_3.{0} @List.drop.eq_1.{0})))) (aI (aI (aI @List.drop.eq_2.{0} @List.drop.eq_3.{0}) (aI @seqK.eq_1 (aI @blockK.eq_1 @blockK.eq_2))) (aI (aI @blockK.eq_3 (aI @loopK.eq_1 @retQ.eq_1)) (aI @retQ.eq_2 (aI @retQ.eq_3 @RetOk.eq_1))))) (aI (aI (aI (aI @resL.eq_1 @resL.eq_2) (aI @resL.eq_3 (aI @toPVs.eq_1 @toPV.eq_1))) (aI (aI @toPV.eq_2 @toPV.eq_3) (aI @toPV.eq_4 (aI @toPV.eq_5 @toPV.eq_6)))) (aI (aI (aI (aI @toPV.eq_7 @toPV.eq_8) @toPV.go.eq_1) (aI @toPV.go.eq_2 (aI @tupOf.eq_1 @boxPV.eq_1))) (aI (aI @if_true.{0} (aI @if_true.{1} @if_false.{0})) (aI @if_false.{1} (aI @true_and @and_true)))))
def q2:=aI (aI (aI (aI (aI @and_self @forall_const.{0}) (aI @forall_const.{1} (aI @xaT @xbh))) (aI (aI @xbR @xbj) (aI @Bool.and_false (aI @xbg @xbK)))) (aI (aI (aI @List.getElem?_cons_zero.{0} @List.getElem?_cons_succ.{0}) (aI @List.nil_append.{0} (aI @List.cons_append.{0} @implies_true.{0}))) (aI (aI @implies_true.{1} (aI @false_implies @imp_self)) (aI @Bool.and_self (aI @Cov.eq_1 @covEnv.eq_1))))) (aI (aI (aI (aI @covEnv.eq_2 @covObj.eq_1) (aI @covObj.eq_2 (aI @scEnv.eq_1 @scEnv.eq_2))) (aI (aI @scObj.eq_1 (aI @scObj.eq_2 @scP.eq_1)) (aI @scP.eq_2 (aI @scP.eq_3 @scP.eq_4)))) (aI (aI (aI @scP.eq_5 @scP.eq_6) (aI @scP.eq_7 (aI @scP.eq_8 @scP.eq_9))) (aI (aI @scP.eq_10 (aI (aI @scP.eq_11 @scP.eq_12) @scPs.eq_1)) (aI @scPs.eq_2 (aI @ite_self.{0} @ite_self.{1})))))
def q3:=aI (aI (aI (aI (aI @zor @Option.map_some.{0,0}) (aI @Option.map_none.{0,0} (aI @Option.toList_some.{0} @Option.toList_none.{0}))) (aI (aI @Option.getD_some.{0} @Option.getD_none.{0}) (aI @Option.isSome_some.{0} (aI @Option.isSome_none.{0} @List.getElem?_map.{0,0})))) (aI (aI (aI @List.length_map.{0,0} @xbz) (aI @List.getElem?_nil.{0} (aI @Int.toNat_zero @decide_true))) (aI (aI @decide_false @xa5) (aI @LObj.box.injEq (aI @zjy @zsX))))) (aI (aI (aI (aI @zAX @zAW) (aI @zAV (aI @zsV @zmk))) (aI (aI @zwP @zpt) (aI @zwS (aI @zwT @zpu)))) (aI (aI (aI @zwR @zv0) (aI @zoO (aI @zrU @zoN))) (aI (aI @zrW @zrX) (aI @zkb (aI @zr2 @zzZ)))))
def q4:=aI (aI (aI (aI (aI @zzY @zzX) (aI @zlW (aI @zv8 @zoT))) (aI (aI @zwa @zwb) (aI @zoU (aI @zv9 @zr1)))) (aI (aI (aI @zzW @zzV) (aI @zzU (aI @zlV @zv4))) (aI (aI @zoR @zv6) (aI @zv7 (aI @zoS @zv5))))) (aI (aI (aI (aI @one_b @one_i) (aI @one_s (aI @zrw @zCE))) (aI (aI @zvI @zCF) (aI @zCG (aI @zvJ @un_p)))) (aI (aI (aI @un_g @un_lp) (aI @zBq (aI @un_ep @un_it))) (aI (aI @un_fn (aI @zBr @zBp)) (aI @ztG (aI @cnd_p @cnd_g)))))
def q5:=aI (aI (aI (aI (aI @zDP @zAO) (aI @zDT (aI @zDR @zDS))) (aI (aI (aI @zAP @zAN) @zsQ) (aI @zBN (aI @rs_mv @zBO)))) (aI (aI (aI @zyJ @zuc) (aI @gOf_v (aI @zwj @zwk))) (aI (aI @evK_p @evG_p) (aI @evK_v (aI @evG_v @zvQ))))) (aI (aI (aI (aI @pkV_b @pkW_b) (aI @gdV_p (aI @gdV_g @zBz))) (aI (aI @zBy @zC3) (aI @zzL (aI @zx9 @ztu)))) (aI (aI (aI @ztt @ztv) (aI @ev_t (aI @ev_c @zEc))) (aI (aI @zCI @zCH) (aI @zCz (aI @zCy @zyW)))))
def q6:=aI (aI (aI (aI (aI @zup @zyf) (aI @ztx (aI @zwL @zsP))) (aI (aI @zyg @zyh) (aI @zwt (aI @zDx @zws)))) (aI (aI (aI @zsu @zpb) (aI @zpa (aI @zpc @zl5))) (aI (aI @zl6 @zsp) (aI @zso (aI @zo8 (aI @zsr @zsq)))))) (aI (aI (aI (aI @zDh @zDi) (aI @zDz (aI @zDg @zDo))) (aI (aI @zDk @zDj) (aI @zDy (aI @eo_or @zDu)))) (aI (aI (aI @zDm @zDp) (aI @zDq (aI @zDr @zDs))) (aI (aI @zAj @zAi) (aI @zAd (aI @zAe @zAg)))))
def q7:=aI (aI (aI (aI (aI @zAf @zAh) (aI @eo_eq (aI @eo_ne @zDl))) (aI (aI @zDn @zDv) (aI @zDw (aI @zAs @zAm)))) (aI (aI (aI @zAl @zAk) (aI @zAp (aI @zAo @zAn))) (aI (aI @zpe @zpd) (aI @zpf (aI @zwq @zwr))))) (aI (aI (aI (aI @zss @zst) (aI @zAz (aI @zl7 @zks))) (aI (aI @zl9 @zl8) (aI @zAu (aI @zAv (aI @zAw (aI @zAy @zAA)))))) (aI (aI (aI @zAx @zAD) (aI @zAC (aI @eo_mx @eo_mn))) (aI (aI @zDt @zwo) (aI @zDB (aI @el_sl @zDA)))))
def q8:=aI (aI (aI (aI (aI @zwX @zs5) (aI @ldLp.eq_1 (aI @ldEp.eq_1 @stLp.eq_1))) (aI (aI @stEp.eq_1 @faEp.eq_1) (aI @iaRow.eq_1 (aI @lenK.eq_1 @lenK.eq_2)))) (aI (aI (aI @apN.eq_1 @apN.eq_2) (aI @apR.eq_1 (aI @elRow.eq_1 @bdK.eq_1))) (aI (aI @bdK.eq_2 @bsK.eq_1) (aI @bsK.eq_2 (aI @mfK.eq_1 @apC.eq_1))))) (aI (aI (aI (aI @apC.eq_2 @zt8) (aI @zqo (aI @zBK @zyv))) (aI (aI @zt7 @zqn) (aI @zqs (aI @zoh @zyB)))) (aI (aI (aI @ztW @zt2) (aI @zqi (aI @zqr @zog))) (aI (aI @zBL @zyw) (aI @rv_eq (aI @zBC @zBD)))))
def q9:=aI (aI (aI (aI (aI @zyo @zBE) (aI @zyp (aI @zBI @zyt))) (aI (aI @zBJ @zyu) (aI @zyA (aI @ztV @zqp)))) (aI (aI (aI @zoe @zqq) (aI @zof (aI @zyF @zt0))) (aI (aI @zBG @zyr) (aI @zyE (aI @ztZ @zyD))))) (aI (aI (aI (aI @ztY @zt5) (aI @zql (aI @zt6 @zqm))) (aI (aI @zBF @zyq) (aI @zBM (aI @zyx @rv_mx)))) (aI (aI (aI @zBA @rv_mn) (aI @zBB (aI @zBH @zys))) (aI (aI @zt3 @zqj) (aI @agC_t (aI @agC_f @ogC_t)))))
def q10:=aI (aI (aI (aI (aI @ogC_f @osC_t) (aI @osC_f (aI @zEb @rdT.eq_1))) (aI (aI @gTmp.eq_1 @gTmp.eq_2) (aI @AOpd.tmps.eq_1 (aI @AOpd.tmps.eq_2 @List.flatMap_cons.{0,0})))) (aI (aI (aI @List.flatMap_nil.{0,0} @zEe) (aI @zEd (aI @zC5 @rdM.eq_1))) (aI (aI @rdM.eq_2 @zyU) (aI @rdK_p (aI @rdK_g @zyT))))) (aI (aI (aI (aI @zBW @zBU) (aI @zBS (aI @zBV (aI @zyV @zyS)))) (aI (aI @zqS @lpK.eq_1) (aI @nxK.eq_1 (aI @cpR.eq_1 @lkK.eq_1)))) (aI (aI (aI @lkK.eq_2 @moK.eq_1) (aI @msK.eq_1 (aI @mget.eq_1 @mget.eq_2))) (aI (aI @mput.eq_1 @mput.eq_2) (aI @keyOk.eq_1 (aI @keysOk.eq_1 @keysOk.eq_2)))))
def q11:=aI (aI (aI (aI (aI @zAq @zo9) (aI @zAB (aI @zwp @zAt))) (aI (aI @mo_p @mo_lm) (aI @zAr (aI @zBT @zyy)))) (aI (aI (aI @ztT @zoi) (aI @zlc (aI @zyG @zt1))) (aI (aI @zt4 @zqk) (aI @zyC (aI @ztX @zyz))))) (aI (aI (aI (aI @ztU @zrV) (aI @un_lm (aI @zDQ @ySt.eq_1))) (aI (aI @accY.eq_1 @accY.eq_2) (aI @parEnv.eq_1 (aI @lowE.eq_1 @ghosts.eq_1)))) (aI (aI (aI @GB.eq_1 @List.filter_cons.{0}) (aI @List.filter_nil.{0} (aI @roundK.eq_1 @asgK.eq_1))) (aI (aI @fin_n @fin_s) (aI @pk_or (aI @zCr @Bool.decide_eq_true)))))
def q12:=aI (aI (aI (aI (aI (aI @zyK (aI @zud @zBP)) @zue) (aI @ztB (aI @zpT @ztF))) (aI (aI @ztD @ztC) (aI @ztE (aI @zpV @zk7)))) (aI (aI (aI @zpU @dk_p) (aI @zDG (aI @zww @zAE))) (aI (aI @zDE @zDF) (aI @List.append_nil.{0} (aI @Eff.ofV.eq_1 @Eff.ofP.eq_1))))) (aI (aI (aI (aI @true_or @or_true) (aI @false_or (aI @or_false @List.all_cons.{0}))) (aI (aI @List.all_nil.{0} @List.length_append.{0}) (aI @xah (aI @Bool.not_not @zwl)))) (aI (aI (aI @zmd @zmc) (aI @zmb (aI @zma @List.set_cons_zero.{0}))) (aI (aI @List.set_cons_succ.{0} @roundI.eq_1) (aI @roundI.eq_2 (aI @roundI.eq_3 @zuv)))))
def q13:=aI (aI (aI (aI (aI @zux @zuw) (aI @zuy (aI @zq3 @zlr))) (aI (aI @zuB @zyY) (aI @zyZ (aI @zuz @zuA)))) (aI (aI (aI (aI @zB8 (aI @zB9 (aI @zBX @zB3))) @zy2) (aI @zy3 (aI @zut @zuu))) (aI (aI @zy0 @zy1) (aI @zy6 (aI @zy7 @zB0))))) (aI (aI (aI (aI @zBZ @zBY) (aI @zB2 (aI @zB1 @zB7))) (aI (aI @zB6 @zB5) (aI @zB4 (aI @zy5 @zy4)))) (aI (aI (aI @zCa @zCb) (aI @zlq (aI @zq0 @zlp))) (aI (aI @zjR @zoy) (aI @zlj (aI @zjQ @zq1)))))
def q14:=aI (aI (aI (aI @zus (aI @zqT @zqU)) (aI (aI @zqY @zqZ) (aI @zox @zjO))) (aI (aI @zjP (aI @zoC @zqW)) (aI (aI @zoB @zoA) (aI @zlm @zln)))) (aI (aI (aI @zqV (aI @zq2 @zuq)) (aI (aI @zur @zqX) (aI @zlk @zov))) (aI (aI @ziu (aI @zoD @zll)) (aI (aI @zoz @zow) (aI @zoE @zlo))))
def q15:=aI (aI @zC7 @zz8) (aI @fillLOk.eq_1 @fillLOk.eq_2)
def qG:=aI (aI (aI @q0 (aI @q1 @q2)) (aI (aI @q3 @q4) (aI @q5 @q6))) (aI (aI (aI @q7 @q8) (aI @q9 @q10)) (aI (aI @q11 @q12) (aI @q13 (aI @q14 @q15))))
def qS:=aI (aI @qG @Bool.not_eq_eq_eq_not) (aI @decide_eq_true_eq @Option.some.injEq.{0})
def qR:=aI (aI (aI @List.replicate_succ.{0} @List.replicate_zero.{0}) (aI @List.set_cons_zero.{0} @List.set_cons_succ.{0})) (aI (aI @List.length_set.{0} @List.length_replicate.{0}) (aI @List.length_cons.{0} @List.length_nil.{0}))
def qH:=aI (aI (aI @decide_eq_true_eq (aI @decide_eq_false_iff_not @xaY)) (aI (aI @xam @xbd) (aI @Bool.and_eq_false_imp @xaX))) (aI (aI (aI @xcg @Bool.not_eq_eq_eq_not) (aI @xbg @xbK)) (aI (aI @Int.not_lt @Int.not_le) (aI @Decidable.not_not @not_or)))
def qB:=aI (aI @xbK (aI @xbg @Bool.and_self)) (aI (aI @xbh @xbR) (aI @decide_true @decide_false))
theorem qe:True:=trivial
theorem rE {p:Prop} (h:p:=by simp (disch:=omega) only [qS,qe,Nat.reduceAdd,Nat.reduceMul,Nat.reduceEqDiff,Nat.reduceLeDiff,reduceIte,reduceCtorEq,Nat.reduceBEq,Nat.reduceLT]<;>rfl):p:=h
theorem rD {p:Prop} (h:p:=by simp (disch:=omega) only [qS,qe,Nat.reduceAdd,Nat.reduceMul,Nat.reduceEqDiff,Nat.reduceLeDiff,reduceIte,reduceCtorEq,Nat.reduceBEq,Nat.reduceLT]<;>fail):p:=h
theorem rA {p:Prop} (h:p:=by simp (disch:=omega) only [qS,qe,Nat.reduceAdd,Nat.reduceMul,Nat.reduceEqDiff,Nat.reduceLeDiff,reduceIte,reduceCtorEq,Nat.reduceBEq,Nat.reduceLT];(repeat' apply And.intro)<;>omega):p:=h
theorem rC {p:Prop} (h:p:=by simp (disch:=omega) only [qS,qe,Nat.reduceAdd,Nat.reduceMul,Nat.reduceEqDiff,Nat.reduceLeDiff,reduceIte,reduceCtorEq,Nat.reduceBEq,Nat.reduceLT] at hc ⊢;(repeat' apply And.intro)<;>first|assumption|omega|(simp_all<;>fail)):p:=h
theorem rF {p:Prop} (h:p:=by simp (disch:=omega) only [qS,qe,Nat.reduceAdd,Nat.reduceMul,Nat.reduceEqDiff,Nat.reduceLeDiff,reduceIte,reduceCtorEq,Nat.reduceBEq,Nat.reduceLT]<;>omega):p:=h
theorem rG {p:Prop} (h:p:=by simp (disch:=omega) only [qS,qe,Nat.reduceAdd,Nat.reduceMul,Nat.reduceEqDiff,Nat.reduceLeDiff,reduceIte,reduceCtorEq,Nat.reduceBEq,Nat.reduceLT]<;>(repeat' apply And.intro)<;>first|rfl|trivial|omega):p:=h
theorem aT:True:=trivial
theorem gJ {p q:Prop} (hq:q) (h:p=q:=by first|exact rE|fail):p:=h.mpr hq
theorem gZ {dr:Bool} {F:List RO->St->List Ft->Prop} {r:List RO} {s:St} {acc:List Ft} {q:Prop} (hq:q) (h:zJ dr F r s acc=q:=by first|exact rE|fail):zJ dr F r s acc:=h.mpr hq
theorem gY {dr:Bool} {F:List RO->St->List Ft->Prop} {r:List RO} {s:St} {acc:List Ft} {q side:Prop} (hq:q) (h:zJ dr F r s acc=(side/\q):=by simp (disch:=omega) only [qS,qe,Nat.reduceAdd,Nat.reduceMul,Nat.reduceEqDiff,Nat.reduceLeDiff,reduceIte,reduceCtorEq,Nat.reduceBEq,Nat.reduceLT,<-and_assoc]<;>rfl)
  (hs:side:=by (repeat' apply And.intro)<;>first|omega|trivial|(intro h;(repeat' apply And.intro)<;>first|exact h|omega|(intro h';simp only [h,h',qB];done))):zJ dr F r s acc:=h.mpr ⟨hs,hq⟩
abbrev AK (f:(St->List Ft->Prop)->Prop):Prop:=∀ K,f K
section
variable {P:Program} {G:Cfg} {Q:zZ} {ts:List (List PV)} {dr:Bool} {K:St->List Ft->Prop} {acc:List Ft} {d:Option Nat} {f:Nat} {args:List AOpd} {gd:Option (Nat × Bool)} {af:List Nat} {r:List RO} {s:St} {vs fs cs:List PV} {res:PV} {c:Bool} {pre:Prop} {ks:List Nat}
theorem za (hf:Pure P f vs res) (hn:zJ dr (zj P ts dr K) r (s.set d (fin gd true (.p res))) (z5 dr acc s ⟨d,.call f,args,gd,af⟩ []))
  (hc:gOf s gd=some true:=by exact rfl)
  (ht:toPVs s.look (uns (zd s args))=some (pre,vs,ks):=by first|exact rE|fail)
  (hp:true=true->zQ (zd s args)=true/\pre:=by intro hc;first|exact rD|exact rA|exact rC|fail)
  (hfl:res.flat=true\/ks=[]:=by first|exact .inl rfl|exact .inr rfl):zj P ts dr K (⟨d,.call f,args,gd,af⟩::r) s acc:=zqE hf hc ht hp hfl (zB hn)
theorem zm (hf:c=true->Pure P f vs res) (hn:zJ dr (zj P ts dr K) r (s.set d (fin gd c (.p res))) (z5 dr acc s ⟨d,.call f,args,gd,af⟩ []))
  (hc:gOf s gd=some c:=by first|rfl|(simp (disch:=omega) only [qG,qe,Nat.reduceAdd,Nat.reduceMul,Nat.reduceEqDiff,Nat.reduceLeDiff,reduceIte,reduceCtorEq,Nat.reduceBEq,Nat.reduceLT]<;>rfl))
  (ht:toPVs s.look (uns (zd s args))=some (pre,vs,ks):=by first|exact rE|fail)
  (hp:c=true->zQ (zd s args)=true/\pre:=by intro hc;first|exact absurd hc xb1|exact rD|exact rA|exact rC|fail)
  (hfl:res.flat=true\/ks=[]:=by first|exact .inl rfl|exact .inr rfl):zj P ts dr K (⟨d,.call f,args,gd,af⟩::r) s acc:=zqC hf hc ht hp hfl (zB hn)
theorem zL (hf:Pure P f vs res) (hn:zJ dr (zj P ts dr K) r ((s.wrs (frzs s.look ks)).set d (.p res)) (z5 dr acc s ⟨d,.call f,args,none,af⟩ (frzs s.look ks)))
  (ht:toPVs s.look (uns (zd s args))=some (pre,vs,ks):=by first|exact rE|fail)
  (hp:zQ (zd s args)=true/\pre:=by first|trivial|exact rD|exact rA|fail):zj P ts dr K (⟨d,.call f,args,none,af⟩::r) s acc:=zqD hf ht hp (zB hn)
theorem zn (hf:Pure P f (fs++vs++cs) res) (hn:zJ dr (zj P ts dr K) r (s.set d (fin gd true (.p res))) (z5 dr acc s ⟨d,.callv,args,gd,af⟩ []))
  (hc:gOf s gd=some true:=by exact rfl)
  (ht:toPVs s.look (uns (zd s args))=some (pre,.fn (.func f) fs cs::vs,ks):=by first|exact rE|fail)
  (hp1:zQ (zd s args)=true:=by first|exact rD|fail)
  (hp2:pre:=by first|trivial|exact rD|exact rA|fail)
  (hfl:res.flat=true\/ks=[]:=by first|exact .inl rfl|exact .inr rfl):zj P ts dr K (⟨d,.callv,args,gd,af⟩::r) s acc:=zqA hc ht (λ_=>⟨hp1,hp2,hf⟩) hfl (zB hn)
theorem zdq (hc:gOf s gd=some true:=by exact rfl)
  (ht:toPVs s.look (uns (zd s args))=some (pre,vs,ks):=by first|exact rE|fail)
  (hp:true=true->zQ (zd s args)=true/\pre:=by intro hc;first|exact rD|exact rA|exact rC|fail)
  (hfl:res.flat=true\/ks=[]:=by first|exact .inl rfl|exact .inr rfl)
  (hf:Pure P f vs res) (hn:zJ dr (zj P ts dr K) r (s.set d (fin gd true (.p res))) (z5 dr acc s ⟨d,.call f,args,gd,af⟩ [])):zj P ts dr K (⟨d,.call f,args,gd,af⟩::r) s acc:=za hf hn hc ht hp hfl
theorem zcx (hc:gOf s gd=some c:=by first|rfl|(simp (disch:=omega) only [qG,qe,Nat.reduceAdd,Nat.reduceMul,Nat.reduceEqDiff,Nat.reduceLeDiff,reduceIte,reduceCtorEq,Nat.reduceBEq,Nat.reduceLT]<;>rfl))
  (ht:toPVs s.look (uns (zd s args))=some (pre,vs,ks):=by first|exact rE|fail)
  (hp:c=true->zQ (zd s args)=true/\pre:=by intro hc;first|exact absurd hc xb1|exact rD|exact rA|exact rC|fail)
  (hfl:res.flat=true\/ks=[]:=by first|exact .inl rfl|exact .inr rfl)
  (hf:c=true->Pure P f vs res) (hn:zJ dr (zj P ts dr K) r (s.set d (fin gd c (.p res))) (z5 dr acc s ⟨d,.call f,args,gd,af⟩ [])):zj P ts dr K (⟨d,.call f,args,gd,af⟩::r) s acc:=zm hf hn hc ht hp hfl
end
theorem sE {p:Prop} (h:p:=by simp only [qS,Nat.reduceAdd,Nat.reduceMul,Nat.reduceEqDiff,Nat.reduceLeDiff,reduceIte,reduceCtorEq,Nat.reduceBEq,Nat.reduceLT]):p:=h
theorem sR {p:Prop} (h:p:=by simp only [qS,Nat.reduceAdd,Nat.reduceMul,Nat.reduceEqDiff,Nat.reduceLeDiff,reduceIte,reduceCtorEq,Nat.reduceBEq,Nat.reduceLT]<;>rfl):p:=h
theorem sS {p:Prop} (h:p:=by simp only [qS,Nat.reduceAdd,Nat.reduceMul,Nat.reduceEqDiff,Nat.reduceLeDiff,reduceIte,reduceCtorEq,Nat.reduceBEq,Nat.reduceLT]<;>simp):p:=h
class Stp (p:Prop) (q:outParam Prop):Prop where
 h:q->p
theorem gS {p q:Prop} [Stp p q] (h:q):p:=Stp.h h
class Mx (P:Program):Prop where
 h:P.follows .mixedOrders=true
section
variable {G:Cfg} {Q:zZ} {s:St} {x y:AC} {i:Nat} {l:List RO}
instance:Stp (Run G (.seq x y) s Q) (Run G x s (seqK G y Q)):=⟨zeP⟩
instance:Stp (Run G (.block i x) s Q) (Run G x s (blockK i Q)):=⟨zqF⟩
instance:Stp (Run G (.scope x) s Q) (Run G x s Q):=⟨zqt⟩
instance:Stp (Run G .label s Q) (Q .normal s):=⟨zqx⟩
instance:Stp (Run G .ret s Q) (Q .ret s):=⟨zyH⟩
instance:Stp (Run G (.exit i) s Q) (Q (.exit i) s):=⟨zio⟩
instance:Stp (Run G .skip s Q) (Q .normal s):=⟨zmE⟩
instance:Stp (Run G (.ops false l) s Q) (∀ K:St->List Ft->Prop,(∀ s acc,Q .normal s->K s acc)->zJ false (zj G.P G.ts false K) l s []):=⟨zyI⟩
instance [Mx G.P]:Stp (Run G (.ops true l) s Q) (∀ K:St->List Ft->Prop,(∀ s acc,Q .normal s->(_h:zcR acc.reverse=true:=by rfl)->K s acc)->zJ true (zj G.P G.ts true K) l s []):=⟨λh=>zt9 Mx.h λK hK=>h K λs acc hq hd=>hK s acc hd hq⟩
end
end Go.Proofs.YtocamnijnhnlfaaGreat
namespace Go.Proofs.YtocamnijnhnlfaaGreat
open Go.ChangeShapes Go.WideShapes Go.ChangeAt Go.RowKit
inductive CP where
 | b
 | i (k:IntKind)
 | s
 | sl (ag:Bool) (cs:List CP)
def zdh (P:Program) (t:TypeId):Bool:=match P.underlying t with|some (.struct _)|some (.array _ _)=>true|_=>false
def zdx (P:Program) (F:TypeId->Option (List CP)):List (TypeId × Nat)->Nat->Option (List CP)
 | [],_=>some []
 | p::r,off=>if p.2=off then (F p.1).bind λc=>if P.cellsOf p.1=c.length then (zdx P F r (off+c.length)).map (c++·) else none else none
def zhl (P:Program):Nat->Nat->TypeId->Option (List CP)
 | 0,_,_=>none
 | n+1,sl,t=>match P.underlying t with
  | some .bool=>some [.b]
  | some (.int k)=>some [.i k]
  | some .string=>some [.s]
  | some (.slice e)=>match sl with
   | 0=>none
   | sl+1=>(zhl P n sl e).bind λc=>if P.cellsOf e=c.length/\(zdh P e=true\/c.length=1)/\0 < c.length then some [.sl (zdh P e) c] else none
  | some (.struct fs)=>(zdx P (zhl P n sl) (fs.toList.map λf=>(f.type,f.offset)) 0).bind λc=>if c.length=P.cellsOf t then some c else none
  | some (.array m e)=>(zdx P (zhl P n sl) ((List.range m).map λi=>(e,i*P.cellsOf e)) 0).bind λc=>if c.length=P.cellsOf t then some c else none
  | _=>none
def zkt (ag:Bool) (l:List PV):PV:=if ag then .agg l else l.headD .any
def FitAll (F:CP->PV->Prop):List CP->List PV->Prop
 | [],[]=>True
 | c::cs,p::ps=>F c p/\FitAll F cs ps
 | _,_=>False
def Fit:Nat->CP->PV->Prop
 | _,.b,p=>∃ x,p=.b x
 | _,.i k,p=>∃ n,p=.i k n
 | _,.s,p=>∃ x,p=.s x
 | 0,.sl _ _,_=>False
 | n+1,.sl ag cs,p=>∃ xs,p=.sl cs.length xs/\∀ x ∈ xs,∃ l,x=zkt ag l/\FitAll (Fit n) cs l
theorem FitAll.app {F:CP->PV->Prop}:∀ {a:List CP} {p:List PV} {b:List CP} {q:List PV},FitAll F a p->FitAll F b q->FitAll F (a++b) (p++q)
 | [],[],_,_,_,h=>h
 | [],_::_,_,_,h,_=>h.elim
 | _::_,[],_,_,h,_=>h.elim
 | c::cs,p::ps,_,_,h,k=>⟨h.1,FitAll.app h.2 k⟩
theorem FitAll.len {F:CP->PV->Prop}:∀ {a:List CP} {p:List PV},FitAll F a p->p.length=a.length
 | [],[],_=>rfl
 | [],_::_,h=>h.elim
 | _::_,[],h=>h.elim
 | c::cs,p::ps,h=>by simp [FitAll.len h.2]
theorem zer {α β:Type} {f:α->Option β}:∀ {l:List α} {r:List β},l.mapM f=some r->∀ x ∈ l,∃ y,f x=some y
 | [],_,_,x,hx=>by cases hx
 | a::l,r,h,x,hx=>by
  rw [xce] at h;cases ha:f a with
  | none=>rw [ha] at h;cases h
  | some y=>
   rw [ha] at h;simp only [xcq,xbE] at h;cases hl:l.mapM f with
   | none=>rw [hl] at h;cases h
   | some ys=>
    rcases xaB.1 hx with rfl|hx
    ·exact ⟨y,ha⟩
    ·exact zer hl x hx
theorem zcH {α β:Type} {f:α->Option β}:∀ {l:List α} {r:List β},l.mapM f=some r->r.length=l.length
 | [],r,h=>by simp at h;subst h;rfl
 | a::l,r,h=>by
  rw [xce] at h;cases ha:f a with
  | none=>rw [ha] at h;cases h
  | some y=>
   rw [ha] at h;simp only [xcq,xbE] at h;cases hl:l.mapM f with
   | none=>rw [hl] at h;cases h
   | some ys=>
    rw [hl] at h;simp only [xbE,Option.pure_def,xaC] at h;subst h;simp [zcH hl]
theorem zlN {α β:Type} {f:α->Option β}:∀ {l:List α} {r:List β},l.mapM f=some r->∀ {i:Nat} {x:α},l[i]?=some x->f x=r[i]?
 | [],r,_,i,x,hx=>by simp at hx
 | a::l,r,h,i,x,hx=>by
  rw [xce] at h;cases ha:f a with
  | none=>rw [ha] at h;cases h
  | some y=>
   rw [ha] at h;simp only [xcq,xbE] at h;cases hl:l.mapM f with
   | none=>rw [hl] at h;cases h
   | some ys=>
    rw [hl] at h;simp only [xbE,Option.pure_def,xaC] at h;subst h;cases i with
    | zero=>simp at hx;subst hx;simpa using ha
    | succ i=>simpa using zlN hl (i:=i) (by simpa using hx)
theorem zyc {k:IntKind} {n:Int} (h:(Lit.int k n).wf=true):k.wrap n=n:=by
 cases k<;>simp [Lit.wf,IntKind.wrap,IntKind.min,IntKind.max,IntKind.signed,IntKind.bits] at *<;>omega
section
variable {H:Type} {enc:TypeId × Value->H} {P:Program} {w:World} {base:Nat} {sp:Nat->Bool} {held:Bool}
theorem zsY {a:Addr} {v:Value} (h:w.cell? a=some v):a.block < w.heap.size/\a.spot=none:=by
 unfold World.cell? at h
 split at h
 ·rename_i hh
  split at h
  ·cases h
  ·rename_i hs;exact ⟨(xaR.1 hh).1,by simpa using hs⟩
 ·cases h
theorem zeW {fuel n:Nat} {sl:Nat} {B:Nat->Prop} {cs:List Value}
  (ih:∀ {t:TypeId} {ds:List Value} {x:DataW H × List MemPlace} {c:List CP},(∀ v ∈ ds,v ∈ cs)->DataW.trod enc P w base sp held fuel t ds=some x->zhl P n sl t=some c->∃ ps,Reps w B ds ps/\FitAll (Fit n) c ps) :
  ∀ (fl:List (TypeId × Nat)) (off:Nat) (c:List CP),(∀ p ∈ fl,∃ x,DataW.trod enc P w base sp held fuel p.1 ((cs.drop p.2).take (P.cellsOf p.1))=some x)->zdx P (zhl P n sl) fl off=some c->off+c.length<=cs.length ->
   ∃ ps,Reps w B ((cs.drop off).take c.length) ps/\FitAll (Fit n) c ps
 | [],off,c,_,h,_=>by
  simp only [zdx,xaC] at h;subst h;exact ⟨[],by simpa using Reps.nil,trivial⟩
 | p::r,off,c,hx,h,hl=>by
  simp only [zdx] at h
  split at h
  ·rename_i ho;obtain ⟨c1,h1,h⟩:=xak.1 h
   split at h
   ·rename_i hc;obtain ⟨c2,h2,rfl⟩:=xac.1 h;obtain ⟨x,hx1⟩:=hx p (by simp)
    rw [ho,hc] at hx1;obtain ⟨p1,r1,f1⟩:=ih (λv hv=>xb5 (xbl hv)) hx1 h1
    obtain ⟨p2,r2,f2⟩:=zeW ih r (off+c1.length) c2 (λq hq=>hx q (by simp [hq])) h2 (by simp at hl;omega)
    refine ⟨p1++p2,?_,f1.app f2⟩;have e:(cs.drop off).take (c1++c2).length=(cs.drop off).take c1.length++(cs.drop (off+c1.length)).take c2.length:=by
     rw [xad,List.take_add,xbB]
    rw [e];exact r1.append r2
   ·cases h
  ·cases h
theorem zfu {B:Nat→Prop} (hB:∀ b,b < w.heap.size→B b):∀ (n fuel:Nat) (sl:Nat) {t:TypeId} {cs:List Value} {x:DataW H × List MemPlace} {c:List CP},
  DataW.trod enc P w base sp held fuel t cs=some x→zhl P n sl t=some c→∃ ps,Reps w B cs ps∧FitAll (Fit n) c ps
 | 0,_,_,_,_,_,_,_,h=>by simp [zhl] at h
 | _+1,0,_,_,_,_,_,h,_=>by simp [DataW.trod] at h
 | n+1,fuel+1,sl,t,cs,x,c,h,hc=>by
  have mono:∀ {c:List CP} {ps:List PV},FitAll (Fit n) c ps→FitAll (Fit (n+1)) c ps:=by
   have one:∀ (m:Nat) (c:CP) (p:PV),Fit m c p→Fit (m+1) c p:=by
    intro m
    induction m with
    | zero=>intro c p h;cases c<;>first|exact h|exact h.elim
    | succ m ihm=>
     intro c p h
     cases c with
     | b=>exact h
     | i k=>exact h
     | s=>exact h
     | sl ag cs=>
      obtain ⟨xs,h1,h2⟩:=h
      refine ⟨xs,h1,fun x hx=>?_⟩
      obtain ⟨l,h3,h4⟩:=h2 x hx
      refine ⟨l,h3,?_⟩
      have:∀ (a:List CP) (b:List PV),FitAll (Fit m) a b→FitAll (Fit (m+1)) a b:=by
       intro a
       induction a with
       | nil=>intro b hb;cases b<;>exact hb
       | cons y r ihr=>
        intro b hb
        cases b with
        | nil=>exact hb
        | cons z q=>exact ⟨ihm _ _ hb.1,ihr _ hb.2⟩
      exact this _ _ h4
   intro c
   induction c with
   | nil=>intro ps h;cases ps<;>exact h
   | cons y r ihr=>
    intro ps h
    cases ps with
    | nil=>exact h
    | cons z q=>exact ⟨one _ _ _ h.1,ihr h.2⟩
  unfold DataW.trod at h
  unfold zhl at hc
  cases hu:P.underlying t with
  | none=>rw [hu] at hc;cases hc
  | some d=>
   rw [hu] at h hc
   match d,h,hc with
   | .bool,h,hc=>
    simp only [xaC] at hc;subst hc
    match cs,h with
    | [.bool b],h=>exact ⟨[.b b],Reps.cons (.b b) Reps.nil,⟨b,rfl⟩,trivial⟩
   | .int k,h,hc=>
    simp only [xaC] at hc;subst hc
    match cs,h with
    | [.int k' m],h=>
     simp only at h
     split at h
     ·rename_i hk
      obtain ⟨rfl,hw⟩:=hk
      exact ⟨[.i k' m],Reps.cons (.i (zyc hw)) Reps.nil,⟨m,rfl⟩,trivial⟩
     ·cases h
   | .string,h,hc=>
    simp only [xaC] at hc;subst hc
    match cs,h with
    | [.string z],h=>
     simp only at h
     split at h
     ·rename_i hk
      exact ⟨[.s z],Reps.cons (.s hk) Reps.nil,⟨z,rfl⟩,trivial⟩
     ·cases h
   | .slice e,h,hc=>
    simp only at hc
    cases sl with
    | zero=>cases hc
    | succ sl=>
     obtain ⟨ce,h1,hc⟩:=xak.1 hc
     split at hc
     ·rename_i hce
      simp only [xaC] at hc;subst hc
      match cs,h with
      | [.slice none 0 0],h=>exact ⟨[.sl ce.length []],Reps.cons .sl0 Reps.nil,⟨[],rfl,fun x hx=>by cases hx⟩,trivial⟩
      | [.slice (some a) len cap],h=>
       simp only at h
       split at h
       ·rename_i hb
        obtain ⟨els,h2,_⟩:=xak.1 h
        by_cases hl0:len=0
        ·subst hl0
         exact ⟨[.sl ce.length []],Reps.cons (.sle hb.2.2) Reps.nil,⟨[],rfl,fun x hx=>by cases hx⟩,trivial⟩
        have hBa:B a.block∧a.spot=none:=by
         obtain ⟨y,hy⟩:=zer h2 0 (xaO.2 (by omega))
         obtain ⟨us,h3,h4⟩:=xak.1 hy
         unfold World.cells? at h3
         split at h3
         ·have h5:=zlN h3 (i:=0) (x:=0) (xco (by rw [hce.1];exact hce.2.2))
          have h6:us.length=P.cellsOf e:=by simpa using zcH h3
          have h7:0 < us.length:=by rw [h6,hce.1];exact hce.2.2
          rw [xab h7] at h5
          have e0:∀ z:Addr,z.add 0=z:=fun z=>by unfold Addr.add;simp
          rw [Nat.zero_mul,e0,e0] at h5
          obtain ⟨k1,k2⟩:=zsY h5
          exact ⟨hB _ k1,k2⟩
         ·cases h3
        have key:∀ i,i < len→∃ (us:List Value) (ps:List PV),(∀ j v,us[j]?=some v→w.cell? (a.add (i*ce.length+j))=some v)∧Reps w B us ps∧FitAll (Fit n) ce ps:=fun i hi=>by
         obtain ⟨y,hy⟩:=zer h2 i (xaO.2 hi)
         obtain ⟨us,h3,h4⟩:=xak.1 hy
         obtain ⟨ps,h5,h6⟩:=zfu (B:=B) hB n fuel sl h4 h1
         refine ⟨us,ps,fun j v hv=>?_,h5,h6⟩
         unfold World.cells? at h3
         split at h3
         ·have hlen:j < P.cellsOf e:=by
           have e1:us.length=P.cellsOf e:=by
            have:=zcH h3
            simpa using this
           rw [←e1];exact (xaa.1 hv).1
          have:=zlN h3 (xco hlen)
          rw [hv] at this
          rw [hce.1] at this
          rw [←Addr.add_add];exact this
         ·cases h3
        classical
        let U:Nat→List Value:=fun i=>if hi:i < len then (key i hi).choose else []
        let PS:Nat→List PV:=fun i=>if hi:i < len then (key i hi).choose_spec.choose else []
        have hU:∀ i,i < len→(∀ j v,(U i)[j]?=some v→w.cell? (a.add (i*ce.length+j))=some v)∧Reps w B (U i) (PS i)∧FitAll (Fit n) ce (PS i):=fun i hi=>by
         have:=(key i hi).choose_spec.choose_spec
         simp only [U,PS,dif_pos hi];exact this
        have hcells:∀ i,i < len→(zkt (zdh P e) (PS i)).cells=PS i:=fun i hi=>by
         unfold zkt
         split
         ·rfl
         ·rename_i hag
          have hl:=(hU i hi).2.2
          have h1l:ce.length=1:=hce.2.1.resolve_left hag
          obtain ⟨q,rfl⟩:∃ q,ce=[q]:=List.length_eq_one_iff.1 h1l
          match hPS:PS i,hl with
          | [z],hl=>
           have hz:=hl.1
           simp only [List.headD_cons]
           cases q with
           | b=>cases n<;>(obtain ⟨_,rfl⟩:=hz;rfl)
           | i k=>cases n<;>(obtain ⟨_,rfl⟩:=hz;rfl)
           | s=>cases n<;>(obtain ⟨_,rfl⟩:=hz;rfl)
           | sl ag cs=>
            cases n with
            | zero=>exact hz.elim
            | succ n=>obtain ⟨_,rfl,_⟩:=hz;rfl
        refine ⟨[.sl ce.length ((List.range len).map fun i=>zkt (zdh P e) (PS i))],Reps.cons (.sl (fun i j=>(U i)[j]?.getD undef) hBa.1 hBa.2 (by simp) hb.2.1 hb.2.2 ?_ ?_ ?_) Reps.nil,⟨_,rfl,fun x hx=>?_⟩,trivial⟩
        ·intro i x hx
         simp only [xai,xac] at hx
         obtain ⟨i',hi',rfl⟩:=hx
         obtain ⟨hi,rfl⟩:=xaa.1 hi'
         simp only [List.length_range,xcs] at hi ⊢
         rw [hcells i hi,(hU i hi).2.2.len]
        ·intro i x j p hx hp
         simp only [xai,xac] at hx
         obtain ⟨i',hi',rfl⟩:=hx
         obtain ⟨hi,rfl⟩:=xaa.1 hi'
         simp only [List.length_range,xcs] at hi hp ⊢
         rw [hcells i hi] at hp
         obtain ⟨v,hv,_⟩:=(hU i hi).2.1.get hp
         rw [hv];exact (hU i hi).1 j v hv
        ·intro i x j p hx hp
         simp only [xai,xac] at hx
         obtain ⟨i',hi',rfl⟩:=hx
         obtain ⟨hi,rfl⟩:=xaa.1 hi'
         simp only [List.length_range,xcs] at hi hp ⊢
         rw [hcells i hi] at hp
         obtain ⟨v,hv,hr⟩:=(hU i hi).2.1.get hp
         rw [hv];exact hr
        ·obtain ⟨i,hi,rfl⟩:=xa3.1 hx
         exact ⟨_,rfl,(hU i (xaO.1 hi)).2.2⟩
       ·cases h
     ·cases hc
   | .struct fs,h,hc=>
    simp only at h hc
    obtain ⟨c',h1,hc⟩:=xak.1 hc
    split at hc
    ·rename_i hl
     simp only [xaC] at hc;subst hc
     split at h
     ·rename_i hcs
      obtain ⟨xs,h2,_⟩:=xac.1 h
      obtain ⟨ps,h3,h4⟩:=zeW (B:=B) (cs:=cs) (n:=n) (sl:=sl) (fun hsub hx hc=>zfu hB n fuel sl hx hc) (fs.toList.map fun f=>(f.type,f.offset)) 0 c' (fun p hp=>by
       obtain ⟨f,hf,rfl⟩:=xa3.1 hp
       exact zer h2 f hf) h1 (by omega)
      rw [xb3,hl,←hcs,xaG] at h3
      exact ⟨ps,h3,mono h4⟩
     ·cases h
    ·cases hc
   | .array m e,h,hc=>
    simp only at h hc
    obtain ⟨c',h1,hc⟩:=xak.1 hc
    split at hc
    ·rename_i hl
     simp only [xaC] at hc;subst hc
     split at h
     ·rename_i hcs
      obtain ⟨xs,h2,_⟩:=xac.1 h
      obtain ⟨ps,h3,h4⟩:=zeW (B:=B) (cs:=cs) (n:=n) (sl:=sl) (fun hsub hx hc=>zfu hB n fuel sl hx hc) ((List.range m).map fun i=>(e,i*P.cellsOf e)) 0 c' (fun p hp=>by
       obtain ⟨i,hi,rfl⟩:=xa3.1 hp
       exact zer h2 i hi) h1 (by omega)
      rw [xb3,hl,←hcs,xaG] at h3
      exact ⟨ps,h3,mono h4⟩
     ·cases h
    ·cases hc
end
end Go.Proofs.YtocamnijnhnlfaaGreat
namespace Go.Proofs.YtocamnijnhnlfaaGreat
open Go.ChangeShapes Go.WideShapes Go.ChangeAt Go.RowKit
def zxt (P:Program) (n:Nat) (t:TypeId):Option (Bool × List CP):=(zhl P n 2 t).bind λc=>if zdh P t=true\/c.length=1 then some (zdh P t,c) else none
def zg7 (P:Program) (n:Nat) (t:TypeId) (p:PV):Prop:=
 (∃ ag c l,zxt P n t=some (ag,c)/\p=zkt ag l/\FitAll (Fit n) c l)/\(∀ e sz xs,P.underlying t=some (.slice e)->p=.sl sz xs->xs.length*P.bytesOf e<=reachBytes)
def zmt (P:Program) (n:Nat):List TypeId->List PV->Prop
 | [],[]=>True
 | t::ts,p::ps=>zg7 P n t p/\zmt P n ts ps
 | _,_=>False
section
variable {H:Type} {enc:TypeId × Value->H} {P:Program} {W:World}
theorem zzx {base n:Nat} {t:TypeId} {v:Value} {d:DataW H} {ps:List MemPlace} (hval:Value.okWide P W .any base t v) (h:DataW.Trod enc P W 0 (fun _=>true) true t v d ps) {q:Bool × List CP} (hq:zxt P n t=some q)
  (hz:(d.weights P t).all (·≤reachBytes)=true):∃ p,Rep W (fun b=>b < W.heap.size) v p∧zg7 P n t p:=by
 obtain ⟨fuel,h⟩:=h
 have hq0:=hq
 unfold zxt at hq
 obtain ⟨c,hc,hq⟩:=xak.1 hq
 split at hq
 ·rename_i hl
  simp only [xaC] at hq
  subst hq
  unfold zdh at hl hq0
  have key:∀ {cs:List Value},DataW.trod enc P W 0 (fun _=>true) true fuel t cs=some (d,ps)→(∀ v ∈ cs,∃ u,Cell.okWide P W .any base u v)→∃ l,Reps W (fun b=>b < W.heap.size) cs l∧FitAll (Fit n) c l:=fun ht hc1=>
   zfu (fun _ h=>h) n fuel 2 ht hc
  have other:zdh P t=false→(∃ u,Cell.okWide P W .any base u v)→v.cells.toList=[v]→∃ p,Rep W (fun b=>b < W.heap.size) v p∧zg7 P n t p:=fun hag hok hcv=>by
   rw [hcv] at h
   obtain ⟨l,h1,h2⟩:=key h (fun v' hv=>by simp at hv;subst hv;exact hok)
   have hlen:=h1.1
   match l,hlen with
   | [p],_=>
    have hr:=h1.2 0 v p rfl rfl
    refine ⟨p,hr,⟨false,c,[p],?_,rfl,h2⟩,fun e sz xs hu he=>?_⟩
    ·rw [hq0]
     have:zdh P t=false:=hag
     unfold zdh at this
     rw [this]
    ·subst he
     cases hr with
     | sl0=>simp
     | sle=>simp
     | sl u h3 h4 h5 h6 h7 h8 h9 h10=>
      rename_i a len cap hh
      cases fuel with
      | zero=>simp [DataW.trod] at h
      | succ fuel=>
       unfold DataW.trod at h
       rw [hu] at h
       simp only at h
       split at h
       ·obtain ⟨els,e1,h⟩:=xak.1 h
        obtain ⟨rest,e2,h⟩:=xac.1 h
        injection h with hd _
        subst hd
        have:=xaD.1 hz ((els.length+rest.length)*P.bytesOf e) (by simp [DataW.weights,hu])
        simp only [decide_eq_true_eq] at this
        have hle:els.length=len:=by simpa using zcH e1
        rw [h5,←hle]
        exact xaV (xba _ (Nat.le_add_right _ _)) this
       ·cases h
  unfold Value.okWide at hval
  cases hu:P.underlying t with
  | none=>unfold zhl at hc;cases n<;>simp [hu] at hc
  | some desc=>
   have ag:(∃ fs,desc=.struct fs)∨(∃ k e,desc=.array k e)∨(zdh P t=false∧Cell.okWide P W .any base t v):=by
    unfold zdh
    rw [hu] at hval ⊢
    cases desc<;>first|exact .inl ⟨_,rfl⟩|exact .inr (.inl ⟨_,_,rfl⟩)|exact .inr (.inr ⟨rfl,hval⟩)
   have agg:zdh P t=true→(∃ cs,v=.agg cs∧cs.size=P.cellsOf t∧Row.okWide P W .any base t cs)→∃ p,Rep W (fun b=>b < W.heap.size) v p∧zg7 P n t p:=fun hag hcs=>by
    obtain ⟨cs,rfl,_,hrow⟩:=hcs
    obtain ⟨l,h1,h2⟩:=key (cs:=cs.toList) h (fun v' hv=>by
     obtain ⟨ts,_,_,hcell⟩:=hrow
     obtain ⟨i,hi⟩:=xaS hv
     obtain ⟨u,_,hk⟩:=hcell i v' (by simpa using hi)
     exact ⟨u,hk⟩)
    refine ⟨.agg l,.agg (by simpa using h1.1) (fun j v' p hv hp=>h1.2 j v' p (by simpa using hv) hp),⟨true,c,l,?_,rfl,h2⟩,fun e sz xs hu' he=>by cases he⟩
    rw [hq0]
    have:zdh P t=true:=hag
    unfold zdh at this
    rw [this]
   rcases ag with ⟨fs,rfl⟩|⟨k,e,rfl⟩|⟨hag,hok⟩
   ·rw [hu] at hval
    exact agg (by unfold zdh;rw [hu]) hval
   ·rw [hu] at hval
    exact agg (by unfold zdh;rw [hu]) hval
   ·refine other hag ⟨t,hok⟩ ?_
    have:∀ cs,v≠.agg cs:=fun cs e=>by
     subst e
     unfold Cell.okWide at hok
     have h2:Cell.ok P W .any base t (.agg cs):=by
      split at hok
      all_goals first|exact hok|(rename_i hv;cases hv)
     unfold Cell.ok at h2
     split at h2
     all_goals first|exact h2.elim|skip
     all_goals (rename_i hv;first|cases hv|skip)
    cases v<;>first|rfl|exact absurd rfl (this _)
 ·cases hq
theorem znb {base n:Nat}:∀ {ts:List TypeId} {vs:List Value} {ds:List (DataW H)} {ps:List MemPlace},DataW.TrodAll enc P W 0 (λ_=>true) true ts vs ds ps->(∀ (j:Nat) t v,ts[j]?=some t->vs[j]?=some v->Value.okWide P W .any base t v) ->
  (∀ t ∈ ts,∃ q,zxt P n t=some q)->(DataW.weightsEach P ts ds).all (·<=reachBytes)=true->∃ l,Reps W (λb=>b < W.heap.size) vs l/\zmt P n ts l
 | [],vs,ds,ps,h,_,_,_=>by
  obtain ⟨rfl,rfl,rfl⟩:=trodAll_nil h;exact ⟨[],Reps.nil,trivial⟩
 | t::ts,vs,ds,ps,h,hval,hq,hz=>by
  obtain ⟨v,vs1,d,ds1,a,b,rfl,rfl,rfl,h1,h2⟩:=trodAll_cons h;obtain ⟨q,hq1⟩:=hq t (by simp)
  simp only [DataW.weightsEach,List.all_append,xam] at hz;obtain ⟨p,r1,f1⟩:=zzx (n:=n) (hval 0 t v rfl rfl) h1 hq1 hz.1;obtain ⟨l,r2,f2⟩:=znb h2 (λj t v ht hv=>hval (j+1) t v (by simpa using ht) (by simpa using hv)) (λt ht=>hq t (by simp [ht])) hz.2
  exact ⟨p::l,Reps.cons r1 r2,f1,f2⟩
theorem zed (hl:laidOutB P=true) {W':World} {sp:Nat->Bool}:∀ {ts:List TypeId} {vs:List Value} {ds:List (DataW H)} {ps:List MemPlace},ts.all (λt=>P.readableRec t && decide (t < P.types.size))=true->DataW.TrodAll enc P W 0 (λ_=>true) true ts vs ds ps ->
  (∀ x ∈ ps,W.sameAt W' x)->(∀ x ∈ ps,sp x.block=true)->DataW.TrodAll enc P W' 0 sp true ts vs ds ps
 | [],vs,ds,ps,_,h,_,_=>by
  obtain ⟨rfl,rfl,rfl⟩:=trodAll_nil h;exact h
 | t::ts,vs,ds,ps,hr,h,hs,hp=>by
  obtain ⟨v,vs1,d,ds1,a,b,rfl,rfl,rfl,h1,h2⟩:=trodAll_cons h;simp only [List.all_cons,xam,decide_eq_true_eq] at hr;exact ⟨a,b,WideElems.Trod_stays hl hr.1.1 hr.1.2 h1 (λx hx=>hs x (by simp [hx])) (λx hx=>hp x (by simp [hx])),zed hl hr.2 h2 (λx hx=>hs x (by simp [hx])) (λx hx=>hp x (by simp [hx])),rfl⟩
theorem zoP {W':World} (hb:Below W.heap.size W W') (may:MemPlace->Prop):W.keptBut W' may:=by
 refine ⟨hb.os,hb.output,λi hi=>?_⟩
 rw [hb.block i hi];cases hh:W.heap[i]? with
 | none=>rfl
 | some o=>cases o<;>first|exact ⟨rfl,rfl,rfl,λ_ _=>rfl⟩|exact .inr ⟨rfl,rfl⟩|rfl
theorem zoF {f:Func} {s:ChangeSpec} {apart fresh handsOn again:Bool} {W':World} {args:Array Value} {ds gs:List (DataW H)} {before:List MemPlace} {tb:TypeId} (hl:laidOutB P=true)
  (hrd:f.params.toList.all (λt=>P.readableRec t && decide (t < P.types.size))=true) (hW:DataW.Whole enc P f.params.toList s.vars apart W args.toList ds gs before) (hv:s.vars=[])
  (hs:s.fn H ds={ results:=[.lit (.bool true)],args:=ds }) (hr:f.resultTypes=#[tb]) (htb:P.underlying tb=some .bool) (hb:Below W.heap.size W W'):s.post enc P f apart fresh handsOn again W args (.bool true) W':=by
 have hlt:∀ p ∈ before,p.block < W.heap.size:=hW.lt;have hW0:=hW;obtain ⟨p,q,hA,hV,rfl,hz,hn⟩:=hW;rw [hv] at hV;obtain ⟨rfl,rfl⟩:=trodVars_none hV;simp only [xat] at hz hn hlt hW0;have hres:∀ (b:Nat) (sp:Nat->Bool) (hd:Bool),DataW.TrodAll enc P W' b sp hd f.resultTypes.toList ((Value.bool true).resultList f.resultTypes.size) [.lit (.bool true)] []:=λb sp hd=>by
  rw [hr];exact trodAll_cons_mk (shut_bool htb _) trodAll_mk0
 have hargs:∀ sp:Nat->Bool,(∀ x ∈ p,sp x.block=true)->DataW.TrodAll enc P W' 0 sp true f.params.toList args.toList ds p:=λsp hsp=>zed hl hrd hA (λx hx=>hb.same (hlt x hx)) hsp
 have hvars:∀ sp:Nat->Bool,DataW.TrodVars enc P W' sp s.vars ([]:List (DataW H)) []:=λsp=>by rw [hv];rfl
 refine ⟨ds,[],p,[],p,[],hW0,by rw [xat,hs];exact hres _ _ _,by rw [xat,hs];exact hargs _ (λx hx=>by simpa using hlt x hx),by rw [xat,hs];exact hvars _,World.keptBut_mono (λx hx=>⟨hx,.inr (.inl hx)⟩) (zoP hb (· ∈ p)),λ_=>?_⟩
 refine ⟨λj t r h1 h2=>?_,[.lit (.bool true)]++ds,[],p,⟨[]++p,[],trodAll_append (hargs _ (λ_ _=>rfl)) (hres _ _ _),hvars _,by simp,?_,?_⟩,λx hx _=>hx⟩
 ·rw [hr] at h1 h2;cases j with
  | zero=>
   simp [Value.resultList] at h1 h2;subst h1;subst h2;exact okWide_bool_mk htb _
  | succ j=>simp at h1
 ·intro b off hp;have:=hz b off hp;unfold World.frozen? at this ⊢;have e:W'.heap[b]?=W.heap[b]?:=hb.block b (hlt _ hp);simp only at this ⊢;rw [e];exact this
 ·intro ha;exact hn ha
end
theorem zxE {C:Checked} {f:FuncId} {fn:Func} {s:ChangeSpec} {n:Nat} {tb:TypeId} (hl:laidOutB C.prog=true) (hrd:fn.params.toList.all (λt=>C.prog.readableRec t && decide (t < C.prog.types.size))=true)
  (hv:s.vars=[]) (hs:∀ (H:Type) (ds:List (DataW H)),ds.length=fn.params.size->s.fn H ds={ results:=[.lit (.bool true)],args:=ds }) (hr:fn.resultTypes=#[tb]) (htb:C.prog.underlying tb=some .bool)
  (hq:fn.params.toList.all (λt=>(zxt C.prog n t).isSome)=true) (hp:∀ ps,zmt C.prog n fn.params.toList ps->Pure C.prog f ps (.b true))
  {H:Type} {enc:TypeId × Value->H} {apart fresh handsOn again:Bool} (W:World) (base:Nat) (args:Array Value) (ds gs:List (DataW H)) (before:List MemPlace)
  (hval:∀ (j:Nat) t v,fn.params[j]?=some t->args[j]?=some v->Value.okWide C.prog W .any base t v) (hW:DataW.Whole enc C.prog fn.params.toList s.vars apart W args.toList ds gs before)
  (hz:(DataW.weightsEach C.prog (fn.params.toList++s.plain.varTypes C.prog) (ds++gs)).all (·<=reachBytes)=true) :
  Calls C.prog f args W λe W'=>∃ v,e=.returned v/\s.post enc C.prog fn apart fresh handsOn again W args v W':=by
 have hW0:=hW;obtain ⟨p,q,hA,hV,rfl,_,_⟩:=hW;have hV':=hV;rw [hv] at hV';obtain ⟨rfl,rfl⟩:=trodVars_none hV';have hlen:∀ {ts:List TypeId} {vs:List Value} {ds:List (DataW H)} {ps:List MemPlace},DataW.TrodAll enc C.prog W 0 (λ_=>true) true ts vs ds ps->ds.length=ts.length:=by
  intro ts
  induction ts with
  | nil=>intro vs ds ps h;obtain ⟨rfl,rfl,rfl⟩:=trodAll_nil h;rfl
  | cons t ts ih=>intro vs ds ps h;obtain ⟨v,vs1,d,ds1,a,b,rfl,rfl,rfl,h1,h2⟩:=trodAll_cons h;simp [ih h2]
 have hd:=hlen hA;have hz':(DataW.weightsEach C.prog fn.params.toList ds).all (·<=reachBytes)=true:=by
  rw [xat] at hz;have hsub:∀ (ts us:List TypeId) (ds:List (DataW H)),ds.length=ts.length->DataW.weightsEach C.prog (ts++us) ds=DataW.weightsEach C.prog ts ds:=by
   intro ts us
   induction ts with
   | nil=>intro ds h;match ds,h with|[],_=>cases us<;>simp [DataW.weightsEach]
   | cons t ts ih=>intro ds h;match ds,h with|d::ds,h=>simp only [xaE,DataW.weightsEach];rw [ih ds (by simpa using h)]
  rw [hsub _ _ _ hd] at hz;exact hz
 obtain ⟨l,hrep,hfit⟩:=znb (n:=n) hA (λj t v ht hv'=>hval j t v (by simpa using ht) (by simpa using hv')) (λt ht=>Option.isSome_iff_exists.1 (xaD.1 hq t ht)) hz'
 have:=(hp l hfit).2 W (λb=>b < W.heap.size) args.toList (λb hb=>hb) hrep
 refine (show Calls C.prog f args W _ from by simpa using this).mono λe W' he=>?_
 obtain ⟨u,rfl,hb,hu⟩:=he;cases hu;exact ⟨_,rfl,zoF hl hrd hW0 hv (hs H ds (by simpa using hd)) hr htb hb⟩
end Go.Proofs.YtocamnijnhnlfaaGreat
namespace Go.Proofs.YtocamnijnhnlfaaGreat
open Go.RowKit
theorem RelC.pub {X:Fx} {C:Ctx} {tr:List (List PV)} {stop:Bool} {a:Act} {w:World} {s:St} (hM:X.MOk) (h:RelC X C s.get s.look tr stop a w) (t:Nat) {pre:Prop} {v v':PV} {ks:List Nat} (ht:toPV s.look 4 (s.get t)=some (pre,v,ks)) (hp:pre) (hw:Weak v v') :
  ∃ C',RelC X C' ((s.wrs (frzs s.look ks)).set (some t) (.p v')).get ((s.wrs (frzs s.look ks)).set (some t) (.p v')).look tr stop a w:=by
 obtain ⟨C',h1,h2,h3⟩:=zgG hM s.look C ks s C h rfl rfl (λ_ h=>h) (λk=>.inl rfl) (zjB 4 ht)
 have hr:=zid h (B':=C'.B) h2 4 (h.env t) ht hp h3;refine ⟨C',?_⟩;rw [zl0,ziX];refine { h1 with env:=λj=>?_,envs:=λj=>?_ }
 ·by_cases e:j=t
  ·subst e;simp only [zi];exact .p (hw.rep hr)
  ·simp only [zw _ _ e];exact h1.env j
 ·by_cases e:j=t
  ·subst e;simp only [zi];exact .p _
  ·simp only [zw _ _ e];exact h1.envs j
inductive Pubs:St->St->Prop
 | cov {s s':St} (h:Cov s s'):Pubs s s'
 | pub {s s':St} (t:Nat) (v':PV) {pre:Prop} {v:PV} {ks:List Nat} (ht:toPV s.look 4 (s.get t)=some (pre,v,ks)) (hp:pre) (hw:Weak v v') (h:Pubs ((s.wrs (frzs s.look ks)).set (some t) (.p v')) s'):Pubs s s'
theorem Pubs.x {s s':St} (t:Nat) (v':PV) {pre:Prop} {v:PV} {ks:List Nat} (h:Pubs ((s.wrs (frzs s.look ks)).set (some t) (.p v')) s')
  (ht:toPV s.look 4 (s.get t)=some (pre,v,ks):=by first|exact rE|fail)
  (hp:pre:=by first|trivial|omega|(simp;done)|exact rF|fail) (hw:Weak v v':=by first|exact .refl _|exact .nilsl _):Pubs s s':=.pub t v' ht hp hw h
section
variable {κ:Type} (inv:κ->St) (ok:κ->Prop) (μ:κ->Nat) (k:κ) (Q:zZ) (s:St)
end
end Go.Proofs.YtocamnijnhnlfaaGreat
namespace Go.Proofs.YtocamnijnhnlfaaGreat
open Go.RowKit
def gLV (k:Nat):LObj->LV
 | .box _ _=>.lp k 0
 | .row _ _ xs _=>.row k xs.length
 | .sit _ _=>.it k
 | .mit _ _=>.it k
 | .mp _ _=>.lm k
 | .hrow ..=>.any
def gV (C:Ctx) (k:Nat):LObj->Value
 | .row ..=>C.cur k
 | .mp ..=>.map (some (C.ρ k))
 | .hrow ..=>undef
 | _=>.pointer (some ⟨C.ρ k,0,none⟩)
theorem zz3 {w:World} {C:Ctx} {l:Nat->Option LObj} (k:Nat) (o:LObj):RepL w C l (gV C k o) (gLV k o):=by
 cases o with
 | box=>exact .lp
 | row=>exact .row λ_ _ _ _ _ _=>rfl
 | sit=>exact .it
 | mit=>exact .it
 | mp=>exact .lm
 | hrow=>exact .any _
theorem zC4 {l:Nat->Option LObj} {k:Nat} {o:LObj} (h:l k=some o):LV.Sc l (gLV k o):=by
 cases o with
 | box=>exact .lp h
 | row=>exact .row h (xah _)
 | sit=>exact .it h
 | mit=>exact .im h
 | mp=>exact .lm h
 | hrow=>exact .any
theorem RepL.sub {w:World} {C C':Ctx} {l l':Nat->Option LObj} (hl:∀ k o,l' k=some o->l k=some o) (hB:∀ b,C.B b->C'.B b) (hy:C'.y=C.y) (hρ:C'.ρ=C.ρ) (hc:C'.cur=C.cur) {v:Value} {q:LV} (h:RepL w C l v q):RepL w C' l' v q:=by
 induction h with
 | p h=>exact .p (h.mono hB λ_ _=>rfl)
 | g _ h2 ih=>exact .g ih h2
 | lp=>rw [<-hρ];exact .lp
 | row h=>exact .row λe sz xs fz hk hx=>by rw [hc];exact h e sz xs fz (hl _ _ hk) hx
 | ep h=>exact .ep λe sz xs fz hk hx=>by rw [hc];exact h e sz xs fz (hl _ _ hk) hx
 | it=>rw [<-hρ];exact .it
 | lm=>rw [<-hρ];exact .lm
 | fn h1 h2 _ _ ih1 ih2=>exact .fn h1 h2 ih1 ih2
 | agg h1 _ ih=>exact .agg h1 ih
 | tup h1 _ ih=>exact .tup h1 ih
 | yield=>rw [<-hy];exact .yield
 | any v=>exact .any v
theorem ObjRel.sub {w:World} {C C':Ctx} {l l':Nat->Option LObj} (hl:∀ k o,l' k=some o->l k=some o) (hB:∀ b,C.B b->C'.B b) (hy:C'.y=C.y) (hρ:C'.ρ=C.ρ) (hc:C'.cur=C.cur) {k:Nat} {o:LObj} (h:ObjRel w C l k o):ObjRel w C' l' k o:=by
 cases o with
 | box cs fz=>obtain ⟨arr,ty,h1,h2,h3⟩:=h;exact ⟨arr,ty,by rw [hρ];exact h1,h2,λj v q hv hq=>(h3 j v q hv hq).sub hl hB hy hρ hc⟩
 | row e sz xs fz=>obtain ⟨us,h1,h2,h3⟩:=h;exact ⟨us,by rw [hc];exact h1,h2.mono hB λ_ _=>rfl,h3⟩
 | hrow e sz xs a c=>obtain ⟨⟨us,h1,h2,h3⟩,h4⟩:=h;exact ⟨⟨us,by rw [hc];exact h1,h2.mono hB λ_ _=>rfl,h3⟩,by rw [hc];exact h4⟩
 | sit s pos=>show w.heap[C'.ρ k]?=_;rw [hρ];exact h
 | mit rem cur=>exact MitOk.keep hB (λ_ _=>rfl) (by rw [hρ]) h
 | mp es fz=>obtain ⟨ents,clock,fs,h1,h0,h2,h3⟩:=h;exact ⟨ents,clock,fs,by rw [hρ];exact h1,h0,h2,λj m kv hm hkv=>⟨(h3 j m kv hm hkv).1.mono hB λ_ _=>rfl,(h3 j m kv hm hkv).2.mono hB λ_ _=>rfl⟩⟩
def ghO (obj:List (Nat × LObj)):List (Nat × LV):=obj.map λx=>(GB+x.1,gLV x.1 x.2)
def zA (args:List LV) (obj:List (Nat × LObj)):St:=⟨(args.zipIdx.map λx=>(x.2,x.1))++ghO obj,obj,[],false⟩
theorem zs6 (g:Nat):∀ (obj:List (Nat × LObj)) (t:Nat),zaD (obj.map λx=>(g+x.1,gLV x.1 x.2)) t=if g<=t then (match zp obj (t - g) with|some o=>gLV (t - g) o|none=>.any) else .any
 | [],t=>by simp [zaD,zp]
 | (k,o)::r,t=>by
  have ih:=zs6 g r t;simp only [xag,zaD,zp]
  by_cases e:t=g+k
  ·subst e;rw [if_pos rfl,if_pos (by omega),xcb,if_pos rfl]
  ·rw [if_neg e,ih]
   by_cases h:g<=t
   ·rw [if_pos h,if_pos h,if_neg (by omega)]
   ·rw [if_neg h,if_neg h]
theorem znX (obj:List (Nat × LObj)) (t:Nat):zaD (ghO obj) t=if GB<=t then (match zp obj (t - GB) with|some o=>gLV (t - GB) o|none=>.any) else .any:=zs6 GB obj t
theorem zlg {w:World} {C:Ctx} {l:Nat->Option LObj} {v:Value} {k off:Nat} (h:RepL w C l v (.lp k off)):v=.pointer (some ⟨C.ρ k,off,none⟩):=by cases h;rfl
theorem zc9 {w:World} {C:Ctx} {l:Nat->Option LObj} {v:Value} {k n:Nat} (h:RepL w C l v (.row k n)):∀ e sz xs fz,l k=some (.row e sz xs fz)->xs.length=n->v=C.cur k:=by cases h;assumption
theorem zga {w:World} {C:Ctx} {l:Nat->Option LObj} {v:Value} {k:Nat} (h:RepL w C l v (.it k)):v=.pointer (some ⟨C.ρ k,0,none⟩):=by cases h;rfl
theorem zlh {w:World} {C:Ctx} {l:Nat->Option LObj} {v:Value} {k:Nat} (h:RepL w C l v (.lm k)):v=.map (some (C.ρ k)):=by cases h;rfl
theorem zh8 (r : List (Nat × LV)) : ∀ (args : List LV) (n t : Nat), n <= t -> zaD ((args.zipIdx n |>.map λx => (x.2, x.1)) ++ r) t = (match args[t - n]? with | some q => q | none => zaD r t)
 | [],n,t,_=>by simp
 | v::a,n,t,h=>by
  simp only [List.zipIdx_cons,xag,xaE,zaD]
  by_cases e:t=n
  ·subst e;simp
  ·rw [if_neg e,zh8 r a (n+1) t (by omega)]
   have:t - n=(t - (n+1))+1:=by omega
   rw [this];rfl
def keepO (s:St):List (Nat × LObj)->Prop
 | []=>True
 | (k,o)::r=>s.look k=some o/\o.frozen=false/\keepO s r
def keepG (s:St):List (Nat × LObj)->Prop
 | []=>True
 | (k,o)::r=>s.get (GB+k)=gLV k o/\keepG s r
theorem zgv {s:St}:∀ {l:List (Nat × LObj)},keepO s l->∀ k o,zp l k=some o->s.look k=some o/\o.frozen=false
 | [],_,k,o,h=>by simp [zp] at h
 | (j,u)::r,hk,k,o,h=>by
  simp only [zp] at h
  split at h
  ·rename_i e;subst e;injection h with h;subst h;exact ⟨hk.1,hk.2.1⟩
  ·exact zgv hk.2.2 k o h
theorem zkd {s:St}:∀ {l:List (Nat × LObj)},keepG s l->∀ k o,zp l k=some o->s.get (GB+k)=gLV k o
 | [],_,k,o,h=>by simp [zp] at h
 | (j,u)::r,hk,k,o,h=>by
  simp only [zp] at h
  split at h
  ·rename_i e;subst e;injection h with h;subst h;exact hk.1
  ·exact zkd hk.2 k o h
def RetR (rs:List RV) (res:LV) (obj':List (Nat × LObj)) (s:St):Prop:=
 ∃ pre lvs,resL s rs=some (pre,lvs)/\pre/\((lvs=[res]/\scP (zp obj') res)\/(∃ pre2 vs ks v,toPVs s.look lvs=some (pre2,vs,ks)/\pre2/\Weak (tupOf vs) v/\res=.p v/\∀ k ∈ ks,zp obj' k=none)\/∃ x y r,lvs=x::y::r/\res=.tup (x::y::r)/\scP (zp obj') res)
def RetA (rs:List RV) (res:LV) (obj obj':List (Nat × LObj)) (s:St):Prop:=keepO s obj'/\keepG s obj/\RetR rs res obj' s
def retA (rs:List RV) (res:LV) (obj obj':List (Nat × LObj)):zZ
 | .normal,s=>RetA rs res obj obj' s
 | .ret,s=>RetA rs res obj obj' s
 | .exit _,_=>False
def zb1 (l:Nat->Option LObj):List (Nat × LObj)->Prop
 | []=>True
 | (k,o)::r=>(match o,l k with
  | .box _ _,some (.box _ _)=>True
  | .row e sz xs _,some (.row e' sz' xs' _)=>e'=e/\sz'=sz/\xs'.length=xs.length
  | .sit _ _,some (.sit _ _)=>True
  | .mit _ _,some (.mit _ _)=>True
  | .mp _ _,some (.mp _ _)=>True
  | .hrow e sz _ _ _,some (.hrow e' sz' _ _ _)=>e'=e/\sz'=sz
  | _,_=>False)/\zb1 l r
theorem zfO {l:Nat->Option LObj}:∀ {obj:List (Nat × LObj)},zb1 l obj->∀ k o,zp obj k=some o->∃ o',l k=some o'/\o.Follows o'/\∀ e sz xs f e' sz' xs' f',o=.row e sz xs f->o'=.row e' sz' xs' f'->xs'.length=xs.length
 | [],_,k,o,h=>by simp [zp] at h
 | (j,u)::r,hf,k,o,h=>by
  simp only [zp] at h
  split at h
  ·rename_i e;subst e;injection h with h;subst h;have h1:=hf.1
   split at h1
   ·rename_i h2;exact ⟨_,h2,trivial,λ_ _ _ _ _ _ _ _ e=>by cases e⟩
   ·rename_i h2;obtain ⟨rfl,rfl,h3⟩:=h1;exact ⟨_,h2,⟨rfl,rfl,by omega⟩,λ_ _ _ _ _ _ _ _ e1 e2=>by cases e1;cases e2;exact h3⟩
   ·rename_i h2;exact ⟨_,h2,trivial,λ_ _ _ _ _ _ _ _ e=>by cases e⟩
   ·rename_i h2;exact ⟨_,h2,trivial,λ_ _ _ _ _ _ _ _ e=>by cases e⟩
   ·rename_i h2;exact ⟨_,h2,trivial,λ_ _ _ _ _ _ _ _ e=>by cases e⟩
   ·rename_i h2;exact ⟨_,h2,h1,λ_ _ _ _ _ _ _ _ e=>by cases e⟩
   ·exact h1.elim
  ·exact zfO hf.2 k o h
def zzC:List (Nat × LObj)->Prop
 | []=>True
 | (_,o)::r=>o.frozen=false/\zzC r
theorem zng:∀ {l:List (Nat × LObj)},zzC l->∀ k o,zp l k=some o->o.frozen=false
 | [],_,k,o,h=>by simp [zp] at h
 | (j,u)::r,hk,k,o,h=>by
  simp only [zp] at h
  split at h
  ·injection h with h;subst h;exact hk.1
  ·exact zng hk.2 k o h
attribute [local irreducible] GB
section
variable {P:Program}
def actFx (w:World) (C:Ctx) (obj:List (Nat × LObj)) (N:Nat):Fx:={ w0:=w,B0:=C.B,B1:=λb=>C.B b\/zxX C obj b,M:=zxX C obj,O0:=λ_=>False,D0:=λ_=>False,Bo:=λb=>C.B b\/zxX C obj b,no:=w.heap.size,N:=N,y:=C.y,J:=λ_ _ _ _=>True,Jx:=λ_ _ _=>True,gv:=λt=>match zp obj (t - GB) with|some o=>gV C (t - GB) o|none=>undef,K:=[] }
def retE (rs:List RV) (res:HD->LV) (obj:List (Nat × LObj)) (obj':HD->List (Nat × LObj)):zZ
 | .normal,s=>∃ i,RetA rs (res i) obj (obj' i) s
 | .ret,s=>∃ i,RetA rs (res i) obj (obj' i) s
 | .exit _,_=>False
theorem zkU {f : FuncId} {fn : Func} {body : Code} {c : AC} {rs : List RV} {args : List LV} {obj : List (Nat × LObj)} {obj'E : HD → List (Nat × LObj)} {resE : HD → LV} (hf : P.funcs[f]? = some fn) (hname : (fn.name == "runtime.NumGoroutine") = false) (hb : fn.body = some body)
  (hc:zP P fn.ntmps body=some c) (hrs:zaP P fn.results.toList=some rs) (hn:args.length≤fn.ntmps) (hgb:fn.ntmps≤GB)
  (hsa:scPs (zp obj) args) (hso:scObj (zp obj) obj) (hnf:zzC obj) (hso'E:∀ i,scObj (zp (obj'E i)) (obj'E i)) (hfolE:∀ i,zb1 (zp (obj'E i)) obj)
  (hrun:∀ X:Fx,X.N=fn.ntmps→Run ⟨P,X,none,[]⟩ c (zA args obj) (retE rs resE obj obj'E)):ActsE P f args obj resE obj'E:=by
 refine ⟨⟨fn,body,hf,hname,hb⟩,fun k o hk=>⟨za4 hso k o hk,zng hnf k o hk⟩,fun i k o hk=>?_,fun w C vs fr hlen hvs=>callsIn_wide.1 (callsIn_of_wp_marks (F:=Fence.wide) (n:=0) hf hb trivial ?_ rfl)⟩
 ·obtain ⟨o',h1,h2,_⟩:=zfO (hfolE i) k o hk;exact ⟨o',h1,h2⟩
 let X:=actFx w C obj fn.ntmps
 have hX:X.Triv:=fun t D o w=>⟨trivial,trivial⟩
 have hN:(vs.toArray++Array.replicate (fn.ntmps - vs.toArray.size) undef).size=fn.ntmps:=by simp;omega
 have hget:∀ t,(zA args obj).get t=(match args[t]? with|some q=>q|none=>zaD (ghO obj) t):=fun t=>by
  have:=zh8 (ghO obj) args 0 t (xa5 _)
  simpa [zA,St.get] using this
 let C0:Ctx:={ C with n:=0,dep:=fun _=>False,own:=fun _=>False }
 have h0:RelC X C0 (zA args obj).get (zA args obj).look [] false { tmps:=vs.toArray++Array.replicate (fn.ntmps - vs.toArray.size) undef,defers:=[] } w:=
  {
   kx:=KeepX.refl _ _
   yy:=rfl
   b0:=fun b h=>h
   blt:=fr.blt
   bold:=fun b h _=>.inl h
   borg:=fun b h=>.inl (.inl h)
   no0:=xah _
   tsz:=hN
   ngb:=hgb
   env:=fun t=>by
    rw [hget]
    split
    ·rename_i q hq
     have hta:t < args.length:=(xaa.1 hq).1
     rw [zbb (xaA (xaA hta hn) hgb)]
     have ht:t < vs.length:=by omega
     have:(vs.toArray++Array.replicate (fn.ntmps - vs.toArray.size) undef).getD t undef=vs[t]:=by
      rw [xap,xbX (by simpa using ht)]
      simp [ht]
     rw [this]
     exact RepL.sub (C:=C) (C':=C0) (l:=zp obj) (fun _ _ h=>h) (fun _ h=>h) rfl rfl rfl (hvs t _ q (xab ht) hq)
    ·rw [znX]
     split
     ·rename_i hge
      have hv:zb2 X { tmps:=vs.toArray++Array.replicate (fn.ntmps - vs.toArray.size) undef,defers:=[] } t=(match zp obj (t - GB) with|some o=>gV C (t - GB) o|none=>undef):=by
       unfold zb2;rw [if_neg (by omega)];rfl
      rw [hv]
      split
      ·rename_i o ho;exact RepL.sub (C:=C) (C':=C0) (l:=zp obj) (fun _ _ h=>h) (fun _ h=>h) rfl rfl rfl (zz3 (w:=w) (C:=C) (l:=zp obj) _ o)
      ·exact .any _
     ·exact .any _
   envs:=fun t=>by
    rw [hget]
    split
    ·rename_i q hq;exact zjH _ q (xah _) (zfw hsa t q hq)
    ·rw [znX]
     split
     ·split
      ·rename_i o ho;exact zC4 ho
      ·exact .any
     ·exact .any
   obj:=fun k o hk=>ObjRel.sub (C:=C) (C':=C0) (l:=zp obj) (fun _ _ h=>h) (fun _ h=>h) rfl rfl rfl (fr.ob k o hk)
   objs:=fun k o hk=>fr.objs k o hk
   sep:=fun k o b hk hb=>by
    obtain ⟨h1,h2⟩:=fr.sep k o b hk hb
    exact ⟨fun _=>.inr ⟨k,o,hk,hb⟩,h1,fun _=>h2,fun h=>by rw [fr.fz k o hk] at h;cases h⟩
   dis:=fun k k' o o' b hne hk hk' hb hb'=>fr.dis k k' o o' b hne hk hk' hb hb'
   marks:=fun p hp=>by cases hp
   nle:=xa5 _
   dn:=fun _ h=>h.elim
   nn:=fun k o b hk _ _ h=>h.elim
   ow:=fun _ h=>h.elim
   oold:=fun _ h=>h.elim
   dold:=fun _ h=>h.elim
   jj:=.inl hX }
 refine wpIn_mono (hrun X rfl ⟨⟨fun b h=>.inr h,fun b h=>.inl (.inr h)⟩,.inl rfl,fun l h=>by cases h⟩ body hc _ _ _ h0) ?_
 rintro e a' w' ⟨s',C',hr',hq⟩
 have key:(∃ i,RetA rs (resE i) obj (obj'E i) s')→LeavesInM Fence.wide 0 P fn a'.tmps (fun e w'=>∃ i u C',e=.returned u∧zEk w C w' C' obj (obj'E i) u (resE i)) a'.defers .returning w':=fun ⟨iE,hRetA⟩=>by
  have hso':=hso'E iE
  have hfol:=hfolE iE
  generalize hobjE:obj'E iE=obj' at hRetA hso' hfol
  generalize hresE:resE iE=res at hRetA
  obtain ⟨hko,hkg,pre,lvs,hl,hp,hres⟩:=hRetA
  refine zev (ro:=none) a'.defers a' w' rfl hr' fun w2 h2=>?_
  obtain ⟨us,hrun,hus⟩:=zeU (fn:=fn) hrs h2 hl hp
  refine ⟨_,hrun,iE,?_⟩
  rw [hobjE,hresE]
  have sub:∀ k o,zp obj' k=some o→s'.look k=some o:=fun k o hk=>(zgv hko k o hk).1
  have nfz:∀ k o,zp obj' k=some o→o.frozen=false:=fun k o hk=>(zgv hko k o hk).2
  have tied:∀ k o o',zp obj k=some o→zp obj' k=some o'→(∀ e sz xs a c,o'≠.hrow e sz xs a c)→Tied C' k C k o':=fun k o o' hk hk' hnh=>by
   have hg:=zkd hkg k o hk
   have hv:∀ a2:Act,zb2 X a2 (GB+k)=gV C k o:=fun a2=>by
    unfold zb2;rw [if_neg (by omega)]
    show (match zp obj (GB+k - GB) with|some o=>gV C (GB+k - GB) o|none=>undef)=_
    rw [xcb,hk]
   have he:RepL w2 C' s'.look (gV C k o) (gLV k o):=by
    rw [←hg,←hv { tmps:=a'.tmps,defers:=[] }];exact h2.env (GB+k)
   obtain ⟨o2,f1,f2,f3⟩:=zfO hfol k o hk
   rw [hk'] at f1;injection f1 with f1;subst f1
   cases o<;>cases o'<;>simp only [LObj.Follows] at f2
   ·have h3:=zlg he;simp only [gV,Value.pointer.injEq,xaC,Addr.mk.injEq] at h3;exact h3.1.symm
   ·rename_i e sz xs fz e' sz' xs' fz'
    simp only [gV,gLV] at he
    exact (zc9 he _ _ _ _ (sub _ _ hk') (f3 _ _ _ _ _ _ _ _ rfl rfl)).symm
   ·have h3:=zga he;simp only [gV,Value.pointer.injEq,xaC,Addr.mk.injEq] at h3;exact h3.1.symm
   ·have h3:=zga he;simp only [gV,Value.pointer.injEq,xaC,Addr.mk.injEq] at h3;exact h3.1.symm
   ·have h3:=zlh he;simp only [gV,Value.map.injEq,xaC] at h3;exact h3.symm
   ·exact absurd rfl (hnh _ _ _ _ _)
  have fin:∀ (ks:List Nat) (u:Value),(∀ k ∈ ks,zp obj' k=none)→RepL w2 { C' with B:=fun b=>C'.B b∨zcr C' s'.look ks b } (zp obj') u res→LV.Sc (zp obj') res→zEk w C w2 { C' with B:=fun b=>C'.B b∨zcr C' s'.look ks b } obj obj' u res:=fun ks u hks hrep hsc=>by
   have noB:∀ k o b,zp obj' k=some o→blk C' k o=some b→¬(C'.B b∨zcr C' s'.look ks b):=fun k o b hk hb hB=>by
    rcases hB with hB|⟨k2,hk2,o2,h3,h4⟩
    ·exact (h2.sep k o b (sub k o hk) hb).2.2.1 (nfz k o hk) hB
    ·refine h2.dis k k2 o o2 b (fun e=>?_) (sub k o hk) h3 hb h4
     subst e;rw [hks k hk2] at hk;cases hk
   exact {
    kx:=h2.kx.mono fun b _ hb=>hb.elim id fun h=>h.elim
    fr:={
     blt:=fun b hb=>hb.elim (h2.blt b) fun ⟨k,_,o,h3,h4⟩=>(h2.sep k o b h3 h4).2.1
     ob:=fun k o hk=>ObjRel.sub (C:=C') (C':={ C' with B:=fun b=>C'.B b∨zcr C' s'.look ks b }) sub (fun _ h=>.inl h) rfl rfl rfl (h2.obj k o (sub k o hk))
     objs:=fun k o hk=>za4 hso' k o hk
     fz:=nfz
     sep:=fun k o b hk hb=>⟨(h2.sep k o b (sub k o hk) hb).2.1,noB k o b hk hb⟩
     dis:=fun k k' o o' b hne hk hk' hb hb'=>h2.dis k k' o o' b hne (sub k o hk) (sub k' o' hk') hb hb' }
    b1:=fun b hb=>.inl (h2.b0 b hb)
    b2:=fun b hb=>by
     by_cases hlt:b < w.heap.size
     ·rcases hb with hb|⟨k,hk,o,h3,h4⟩
      ·rcases h2.bold b hb hlt with h|h
       ·exact .inl h
       ·exact .inr (.inr h)
      ·obtain ⟨e1,e2,_,e4⟩:=h2.sep k o b h3 h4
       cases hf:o.frozen with
       | true=>
        rcases h2.bold b (e4 hf) hlt with h|h
        ·exact .inl h
        ·exact .inr (.inr h)
       | false=>
        rcases e1 hf with h|h
        ·exact .inr (.inl h)
        ·exact .inr (.inr h)
     ·exact .inr (.inl (by omega))
    y:=h2.yy
    fol:=fun k o hk=>by obtain ⟨o',f1,f2,_⟩:=zfO hfol k o hk;exact ⟨o',f1,f2⟩
    tied:=fun k o o' hk hk' hnh _=>by have:=tied k o o' hk hk' hnh;cases o'<;>exact this
    bk:=fun k o b hk hb=>((h2.sep k o b (sub k o hk) hb).1 (nfz k o hk)).symm
    rp:=hrep
    scr:=hsc }
  rcases hres with ⟨rfl,hsc⟩|⟨pre2,vs2,ks,v,ht,hp2,hw,rfl,hks⟩|⟨x,y,r,rfl,rfl,hsc⟩
  ·match us,hus with
   | [u],hus=>
    refine ⟨u,_,rfl,fin [] u (fun k h=>by cases h) ?_ (zjH _ res (xah _) hsc)⟩
    exact RepL.sub (C:=C') (C':={ C' with B:=fun b=>C'.B b∨zcr C' s'.look [] b }) sub (fun _ h=>.inl h) rfl rfl rfl (hus.2 0 u res rfl rfl).1
   | [],hus=>exact absurd hus.1 (by simp)
   | _::_::_,hus=>exact absurd hus.1 (by simp)
  ·have hreps:=zbs h2 hus ht hp2
   refine ⟨_,_,rfl,fin ks _ hks (.p (hw.rep ?_)) (.p _)⟩
   match us,vs2,hreps with
   | [],[],_=>exact .tup rfl (fun j v p hv=>by simp at hv)
   | [u],[p],h=>exact h.2 0 u p rfl rfl
   | u::v::us,p::q::ps,h=>
    have:(u::v::us).toArray.size≠1:=by simp
    rw [dif_neg this]
    exact .tup (by simpa using h.1) (fun j x y hx hy=>h.2 j x y (by simpa using hx) hy)
   | [],_::_,h=>exact absurd h.1 (by simp)
   | _::_,[],h=>exact absurd h.1 (by simp)
   | [_],_::_::_,h=>exact absurd h.1 (by simp)
   | _::_::_,[_],h=>exact absurd h.1 (by simp)
  ·match us,hus with
   | u::v::us,hus=>
    have hsz:(u::v::us).toArray.size≠1:=by simp
    refine ⟨.tuple (u::v::us).toArray,_,by rw [dif_neg hsz],fin [] _ (fun k h=>by cases h) (.tup (by simpa using hus.1) fun j v1 p1 hv hp=>?_) (zjH _ _ (xah _) hsc)⟩
    exact RepL.sub (C:=C') (C':={ C' with B:=fun b=>C'.B b∨zcr C' s'.look [] b }) sub (fun _ h=>.inl h) rfl rfl rfl (hus.2 j v1 p1 (by simpa using hv) hp).1
   | [],hus=>exact absurd hus.1 (by simp)
   | [_],hus=>exact absurd hus.1 (by simp)
 cases e with
 | normal=>exact key hq
 | ret=>exact key hq
 | exit id=>exact hq.elim
 | goto l=>exact hq.elim
 | panic c=>exact hq.elim
 | outgrown=>exact hq.elim
theorem ActsE.toA {f:FuncId} {args:List LV} {obj:List (Nat × LObj)} {res:LV} {obj':List (Nat × LObj)} (h:ActsE P f args obj (λ_=>res) (λ_=>obj')):Acts P f args obj res obj':=
 ⟨h.1,h.2.1,h.2.2.1 (none,0),λw C vs fr hl hv=>Calls.mono (h.2.2.2 w C vs fr hl hv) λ_ _ ⟨_,u,C',h1,h2⟩=>⟨u,C',h1,h2⟩⟩
theorem znZ {f:FuncId} {c:AC} {rs:List RV} {n:Nat} (h:zeB P f=some (c,rs,n)) {args:List LV} {obj:List (Nat × LObj)} {obj':HD->List (Nat × LObj)} {res:HD->LV} (hn:args.length<=n)
  (hsa:scPs (zp obj) args) (hso:scObj (zp obj) obj) (hnf:zzC obj) (hso':∀ i,scObj (zp (obj' i)) (obj' i)) (hfol:∀ i,zb1 (zp (obj' i)) obj)
  (hrun:∀ X:Fx,X.N=n->Run ⟨P,X,none,[]⟩ c (zA args obj) (retE rs res obj obj')):ActsE P f args obj res obj':=by
 unfold zeB at h
 split at h
 ·rename_i fn hf
  split at h
  ·cases h
  ·rename_i hname
   split at h
   ·rename_i b hb
    split at h
    ·rename_i c' rs' hc hrs
     split at h
     case isFalse=>cases h
     rename_i hgb;injection h with h;injection h with e1 h;injection h with e2 e3;subst e1;subst e2;subst e3;exact zkU hf (by simpa using hname) hb hc hrs hn hgb hsa hso hnf hso' hfol hrun
    ·cases h
   ·cases h
 ·cases h
theorem zA7 {f:FuncId} {c:AC} {rs:List RV} {n:Nat} (h:zeB P f=some (c,rs,n)) {args:List LV} {obj obj':List (Nat × LObj)} {res:LV} (hn:args.length<=n)
  (hsa:scPs (zp obj) args) (hso:scObj (zp obj) obj) (hnf:zzC obj) (hso':scObj (zp obj') obj') (hfol:zb1 (zp obj') obj)
  (hrun:∀ X:Fx,X.N=n->Run ⟨P,X,none,[]⟩ c (zA args obj) (retA rs res obj obj')):Acts P f args obj res obj':=
 (znZ h hn hsa hso hnf (λ_=>hso') (λ_=>hfol) λX hX hG code hc C a w hr=>wpIn_mono (hrun X hX hG code hc C a w hr) λe a1 w1 hq=>by
  obtain ⟨s1,C1,h1,h2⟩:=hq;refine ⟨s1,C1,h1,?_⟩;cases e with
  | normal=>exact ⟨(none,0),h2⟩
  | ret=>exact ⟨(none,0),h2⟩
  | exit i=>exact h2.elim
  | goto l=>exact h2.elim
  | panic c=>exact h2.elim
  | outgrown=>exact h2.elim).toA
end
end Go.Proofs.YtocamnijnhnlfaaGreat
namespace Go.Proofs.YtocamnijnhnlfaaGreat
open Go.RowKit
theorem rnE {p:Prop} (h:p:=by simp (disch:=omega) only [qS,qe,xaQ,xaE,rn.eq_1,rn.eq_2,lentO.eq_1,lentO.eq_2,newO.eq_1,newO.eq_2,LObj.ren.eq_1,LObj.ren.eq_2,LObj.ren.eq_3,LObj.ren.eq_4,LObj.ren.eq_5,LV.ren.eq_1,LV.ren.eq_3,LV.ren.eq_4,LV.ren.eq_6,LV.ren.eq_7,LV.ren.eq_8,LV.ren.eq_9,LV.ren.eq_10,rens.eq_1,rens.eq_2,zbF,keepO.eq_1,keepO.eq_2,keepG.eq_1,keepG.eq_2,gLV.eq_1,gLV.eq_2,gLV.eq_4,zA,ghO,GB,Nat.reduceAdd,Nat.reduceMul,Nat.reduceEqDiff,Nat.reduceLeDiff,reduceIte,reduceCtorEq,Nat.reduceBEq,Nat.reduceLT]<;>rfl):p:=h
theorem rnD {p:Prop} (h:p:=by simp (disch:=omega) only [qS,qe,xaQ,xaE,rn.eq_1,rn.eq_2,lentO.eq_1,lentO.eq_2,newO.eq_1,newO.eq_2,LObj.ren.eq_1,LObj.ren.eq_2,LObj.ren.eq_3,LObj.ren.eq_4,LObj.ren.eq_5,LV.ren.eq_1,LV.ren.eq_3,LV.ren.eq_4,LV.ren.eq_6,LV.ren.eq_7,LV.ren.eq_8,LV.ren.eq_9,LV.ren.eq_10,rens.eq_1,rens.eq_2,zbF,keepO.eq_1,keepO.eq_2,keepG.eq_1,keepG.eq_2,gLV.eq_1,gLV.eq_2,gLV.eq_4,zA,ghO,GB,Nat.reduceAdd,Nat.reduceMul,Nat.reduceEqDiff,Nat.reduceLeDiff,reduceIte,reduceCtorEq,Nat.reduceBEq,Nat.reduceLT]<;>fail):p:=h
theorem rnT {p:Prop} (h:p:=by simp (disch:=omega) only [qS,qe,xaQ,xaE,rn.eq_1,rn.eq_2,lentO.eq_1,lentO.eq_2,newO.eq_1,newO.eq_2,LObj.ren.eq_1,LObj.ren.eq_2,LObj.ren.eq_3,LObj.ren.eq_4,LObj.ren.eq_5,LV.ren.eq_1,LV.ren.eq_3,LV.ren.eq_4,LV.ren.eq_6,LV.ren.eq_7,LV.ren.eq_8,LV.ren.eq_9,LV.ren.eq_10,rens.eq_1,rens.eq_2,zbF,keepO.eq_1,keepO.eq_2,keepG.eq_1,keepG.eq_2,gLV.eq_1,gLV.eq_2,gLV.eq_4,zA,ghO,GB,Nat.reduceAdd,Nat.reduceMul,Nat.reduceEqDiff,Nat.reduceLeDiff,reduceIte,reduceCtorEq,Nat.reduceBEq,Nat.reduceLT]<;>(repeat' apply And.intro)<;>first|rfl|trivial):p:=h
theorem rnO {p:Prop} (h:p:=by simp (disch:=omega) only [qS,qe,xaQ,xaE,rn.eq_1,rn.eq_2,lentO.eq_1,lentO.eq_2,newO.eq_1,newO.eq_2,LObj.ren.eq_1,LObj.ren.eq_2,LObj.ren.eq_3,LObj.ren.eq_4,LObj.ren.eq_5,LV.ren.eq_1,LV.ren.eq_3,LV.ren.eq_4,LV.ren.eq_6,LV.ren.eq_7,LV.ren.eq_8,LV.ren.eq_9,LV.ren.eq_10,rens.eq_1,rens.eq_2,zbF,keepO.eq_1,keepO.eq_2,keepG.eq_1,keepG.eq_2,gLV.eq_1,gLV.eq_2,gLV.eq_4,zA,ghO,GB,Nat.reduceAdd,Nat.reduceMul,Nat.reduceEqDiff,Nat.reduceLeDiff,reduceIte,reduceCtorEq,Nat.reduceBEq,Nat.reduceLT]<;>(repeat' apply And.intro)<;>first|trivial|exact .inl rfl|exact .inr rfl):p:=h
theorem kpT {p:Prop} (h:p:=by simp (disch:=omega) only [qS,qe,keepO.eq_1,keepO.eq_2,keepG.eq_1,keepG.eq_2,gLV.eq_1,gLV.eq_2,gLV.eq_4,gLV.eq_5,LObj.frozen.eq_1,LObj.frozen.eq_2,LObj.frozen.eq_3,LObj.frozen.eq_4,GB,Nat.reduceAdd,Nat.reduceMul,Nat.reduceEqDiff,Nat.reduceLeDiff,reduceIte,reduceCtorEq,Nat.reduceBEq,Nat.reduceLT]<;>(repeat' apply And.intro)<;>first|rfl|trivial|omega):p:=h
def rn:List (Nat × Nat)->Nat->Nat
 | [],k=>k
 | (a,b)::r,k=>match k == a with|true=>b|false=>rn r k
def lentO (s:St) (m:Nat->Nat):List (Nat × LObj)->Prop
 | []=>True
 | (k,o)::r=>s.look (m k)=some (o.ren m)/\lentO s m r
def newO (s:St) (m:Nat->Nat) (obj:List (Nat × LObj)):List (Nat × LObj)->Prop
 | []=>True
 | (k,_)::r=>((zp obj k).isSome=true\/s.look (m k)=none)/\newO s m obj r
theorem zd4 {s:St} {m:Nat->Nat} {obj obj':List (Nat × LObj)} (h1:lentO s m obj) (h2:newO s m obj obj') (h3:(obj'.map λx=>m x.1).Nodup):zn6 s m obj obj' where
 old:=by
  have key:∀ l:List (Nat × LObj),lentO s m l->∀ k o,zp l k=some o->s.look (m k)=some (o.ren m):=by
   intro l
   induction l with
   | nil=>intro _ k o h;simp [zp] at h
   | cons x r ih=>
    obtain ⟨j,u⟩:=x;intro hl k o h;simp only [zp] at h
    split at h
    ·rename_i e;subst e;injection h with h;subst h;exact hl.1
    ·exact ih hl.2 k o h
  exact key obj h1
 new:=by
  intro k o hk h0;have key:∀ l:List (Nat × LObj),newO s m obj l->zp l k=some o->s.look (m k)=none:=by
   intro l
   induction l with
   | nil=>intro _ h;simp [zp] at h
   | cons x r ih=>
    obtain ⟨j,u⟩:=x;intro hn h;simp only [zp] at h
    split at h
    ·rename_i e;subst e
     rcases hn.1 with h|h
     ·rw [h0] at h;cases h
     ·exact h
    ·exact ih hn.2 h
  exact key obj' h2 hk
 nd:=h3
section
variable {P:Program} {G:Cfg} {Q:zZ} {ts:List (List PV)} {dr:Bool} {K:St->List Ft->Prop} {acc:List Ft} {d:Option Nat} {f:Nat} {args:List AOpd} {af:List Nat} {r:List RO} {s:St} {vs:List LV} {res:LV} {obj obj':List (Nat × LObj)}
theorem zo (l:List (Nat × Nat)) (hf:Acts P f vs obj res obj') (hn:zJ dr (zj P ts dr K) r ((s.wrs (zbF (rn l) obj')).set d (res.ren (rn l))) (z5 dr acc s ⟨d,.call f,args,none,af⟩ (zbF (rn l) obj')))
  (ha:uns (zd s args)=rens (rn l) vs:=by first|exact rnE|fail)
  (hp:zQ (zd s args)=true:=by first|exact rnD|fail)
  (h1:lentO s (rn l) obj:=by first|exact rnT|fail)
  (h2:newO s (rn l) obj obj':=by first|exact rnO|fail)
  (h3:(obj'.map λx=>rn l x.1).Nodup:=by first|decide|(simp only [xag,xav];decide)|simp):zj P ts dr K (⟨d,.call f,args,none,af⟩::r) s acc:=
 zjJ (rn l) hf ha hp (zd4 h1 h2 h3) (zB hn)
theorem zeR {ng:Bool} {x:AOpd} {R:Bool->Prop} (hn:∀ b:Bool,R b->zJ false (zj P ts false K) r (s.set d (.p (.b (if ng then !b else b)))) acc)
  (h:ztk s.look (x.ev s)=some R:=by first|exact rE|fail):zj P ts false K (⟨d,.isnil ng,[x],none,af⟩::r) s acc:=
 zqy h λb hb=>zB (hn b hb)
end
def ztr (rs:List RV) (res:LV) (obj obj':List (Nat × LObj)) (s:St):Prop:=RetA rs res obj obj' s\/∃ k e sz env o,Own k e sz s env o/\RetA rs res obj obj' ⟨env,(k,.row e sz [] false)::o,s.tr,s.stop⟩
def retB (rs:List RV) (res:LV) (obj obj':List (Nat × LObj)):zZ
 | .normal,s=>ztr rs res obj obj' s
 | .ret,s=>ztr rs res obj obj' s
 | .exit _,_=>False
theorem rtN (rs:List RV) (res:LV) (obj obj':List (Nat × LObj)) (s:St):retB rs res obj obj' .normal s=ztr rs res obj obj' s:=rfl
theorem rtR (rs:List RV) (res:LV) (obj obj':List (Nat × LObj)) (s:St):retB rs res obj obj' .ret s=ztr rs res obj obj' s:=rfl
theorem zF {P:Program} {f:FuncId} {c:AC} {rs:List RV} {n:Nat} (h:zeB P f=some (c,rs,n)) {args:List LV} {obj obj':List (Nat × LObj)} {res:LV} (hn:args.length<=n)
  (hsa:scPs (zp obj) args) (hso:scObj (zp obj) obj) (hnf:zzC obj) (hso':scObj (zp obj') obj') (hfol:zb1 (zp obj') obj)
  (hrun:∀ X:Fx,X.N=n->Run ⟨P,X,none,[]⟩ c (zA args obj) (retB rs res obj obj')):Acts P f args obj res obj':=
 zA7 h hn hsa hso hnf hso' hfol λX hX hG code hc C a w hr=>
  wpIn_mono (hrun X hX hG code hc C a w hr) λe a1 w1 hq=>by
   obtain ⟨s1,C1,h1,h2⟩:=hq;have key:ztr rs res obj obj' s1->∃ s2 C2,RelC X C2 s2.get s2.look s2.tr s2.stop a1 w1/\RetA rs res obj obj' s2:=λh=>by
    rcases h with h|⟨k,e,sz,env,o,ho,h⟩
    ·exact ⟨s1,C1,h1,h⟩
    ·obtain ⟨C2,h2⟩:=h1.own ho;exact ⟨⟨env,(k,.row e sz [] false)::o,s1.tr,s1.stop⟩,C2,h2,h⟩
   cases e with
   | normal=>obtain ⟨s2,C2,h3,h4⟩:=key h2;exact ⟨s2,C2,h3,h4⟩
   | ret=>obtain ⟨s2,C2,h3,h4⟩:=key h2;exact ⟨s2,C2,h3,h4⟩
   | exit i=>exact h2.elim
   | goto l=>exact h2.elim
   | panic c=>exact h2.elim
   | outgrown=>exact h2.elim
theorem RetA.mk1 {t:Nat} {res:LV} {obj obj':List (Nat × LObj)} {s:St} (h1:keepO s obj':=by first|exact kpT|fail) (h2:keepG s obj:=by first|exact kpT|fail) (h3:s.get t=res:=by first|exact kpT|fail) (h4:scP (zp obj') res:=by first|exact kpT|fail):RetA [.tmp t] res obj obj' s:=
 ⟨h1,h2,True,[res],by simp only [resL,h3];rfl,trivial,.inl ⟨rfl,h4⟩⟩
theorem RetA.mk0 {obj obj':List (Nat × LObj)} {s:St} (h1:keepO s obj':=by first|exact kpT|fail) (h2:keepG s obj:=by first|exact kpT|fail):RetA [] (.p (.tup [])) obj obj' s:=
 ⟨h1,h2,True,[],rfl,trivial,.inr (.inl ⟨True,[],[],.tup [],by simp only [toPVs,toPV.go],trivial,.refl _,rfl,λk h=>by cases h⟩)⟩
section
variable (m:Nat->Nat)
theorem zyN:zbF m []=[]:=rfl
theorem zug (k:Nat) (o:LObj) (r:List (Nat × LObj)):zbF m ((k,o)::r)=(m k,o.ren m)::zbF m r:=rfl
theorem lr_p (v:PV):(LV.p v).ren m=.p v:=by rw [LV.ren]
theorem lr_lp (k o:Nat):(LV.lp k o).ren m=.lp (m k) o:=by rw [LV.ren]
theorem zCQ (k n:Nat):(LV.row k n).ren m=.row (m k) n:=by rw [LV.ren]
theorem lr_ep (k n i o:Nat):(LV.ep k n i o).ren m=.ep (m k) n i o:=by rw [LV.ren]
theorem lr_lm (k:Nat):(LV.lm k).ren m=.lm (m k):=by rw [LV.ren]
theorem zCR (e:TypeId) (sz:Nat) (xs:List PV) (fz:Bool):(LObj.row e sz xs fz).ren m=.row e sz xs fz:=rfl
theorem lo_mp (es:List (PV × PV)) (fz:Bool):(LObj.mp es fz).ren m=.mp es fz:=rfl
theorem zCS (cs:List LV) (fz:Bool):(LObj.box cs fz).ren m=.box (rens m cs) fz:=rfl
theorem rs0:rens m []=[]:=by rw [rens]
theorem rs1 (q:LV) (r:List LV):rens m (q::r)=q.ren m::rens m r:=by rw [rens]
end
theorem zBR (k:Nat):rn [] k=k:=rfl
theorem zyO (a b:Nat) (r:List (Nat × Nat)) (k:Nat):rn ((a,b)::r) k=match k == a with|true=>b|false=>rn r k:=rfl
def qN:=And.intro (And.intro (And.intro @zyN @zug) (And.intro (And.intro @lr_p @lr_lp) (And.intro @zCQ (And.intro @lr_ep @lr_lm)))) (And.intro (And.intro (And.intro @zCR @lo_mp) (And.intro @zCS (And.intro @rs0 @rs1))) (And.intro @zBR @zyO))
theorem zhr {G:Cfg} {c:AC} {s:St} {Q Q':zZ} (hm:∀ e s1,Q e s1->Q' e s1) (h:Run G c s Q):Run G c s Q':=λhG code hc C a w hr=>
 wpIn_mono (h hG code hc C a w hr) λe a1 w1 hq=>by
  obtain ⟨s1,C1,h1,h2⟩:=hq;exact ⟨s1,C1,h1,by cases e<;>first|exact hm _ _ h2|exact h2⟩
def cutQ (s':St):zZ
 | .normal,s=>Cov s s'
 | _,_=>False
theorem zf6 {G:Cfg} {x y:AC} {s:St} {Q:zZ} (s':St) (h1:Run G x s (cutQ s')) (h2:Run G y s' Q):Run G x s (seqK G y Q):=
 zhr (λe s1 h=>by
  cases e with
  | normal=>exact zmF s' h h2
  | exit i=>exact h.elim
  | ret=>exact h.elim) h1
theorem zbR {P:Program} {ts:List (List PV)} {dr:Bool} {K:St->List Ft->Prop} {acc:List Ft} {d:Option Nat} {op:AOp} {args:List AOpd} {gd:Option (Nat × Bool)} {af:List Nat} {r:List RO} {s:St} (q:PV)
  (hc:gOf s gd=some false) (hn:zj P ts dr K r (s.set d (fin gd false (.p q))) (z5 dr acc s ⟨d,op,args,gd,af⟩ [])):zj P ts dr K (⟨d,op,args,gd,af⟩::r) s acc:=
 .inl ⟨_,_,.callN hc,hn⟩
end Go.Proofs.YtocamnijnhnlfaaGreat
