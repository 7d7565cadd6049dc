/- Contracts. No conditions. -/
import Derived.Test.YtbgckikhhcbmpaaGreatK1
set_option linter.all false
set_option maxHeartbeats 8000000
set_option maxRecDepth 100000
namespace Go.Proofs.YtbgckikhhcbmpaaGreat
open Go.RowKit
variable {c:AC} {op:AOp} {listed:Array Bool} {ops:Array Oper} {ct cx cy:Bool} {G:Cfg} {f:FuncId} {X:Fx} {q t:LV} {ts:List (List PV)} {env:List (Nat × LV)} {r:List (Nat × Obj)} {fs:List Ft} {L l:List RO} {N b i j m n off:Nat} {S:Nat->Bool} {Bi:Nat->Prop} {o:Obj} {P:Program} {s s':St} {K:St->List Ft->Prop} {w0:World}
def AOp.isEv:AOp->Bool
 | .mv|.pick|.call _|.callv|.isnil _|.mit _=>false
 | _=>true
def evK (dr:Bool) (K:List RO->St->List Ft->Prop) (d:Option Nat) (r:List RO) (s:St) (ac:List (Nat × LObj)->List Ft) (cn:Bool):Option (Prop × Eff)->Prop
 | some (pre,eff)=>(cn=true/\pre)/\(eff.nw=true->s.look (d.getD 0)=none)/\zF dr K r ((s.wrs eff.wr.toList).set d eff.val) (ac eff.wr.toList)
 | none=>False
def evG (dr:Bool) (K:List RO->St->List Ft->Prop) (d:Option Nat) (r:List RO) (s:St) (ac:List (Nat × LObj)->List Ft) (cn:Bool):Option Bool->Option (Prop × Eff)->Prop
 | some c,some (pre,eff)=>(c=true->cn=true/\pre)/\(eff.wr.isSome=true->c=true)/\(eff.nw=true->s.look (d.getD 0)=none)/\zF dr K r ((s.wrs eff.wr.toList).set d (eff.val.under c)) (ac eff.wr.toList)
 | some false,none=>zF dr K r (s.set d (.g false (.p (.b false)))) (ac [])
 | _,_=>False
def mvG (dr:Bool) (K:List RO->St->List Ft->Prop) (d:Option Nat) (r:List RO) (s:St) (ac:List Ft) (v:LV):Option Bool->Prop
 | some c=>zF dr K r (s.set d (v.under c)) ac
 | none=>False
def pkV (dr:Bool) (K:List RO->St->List Ft->Prop) (d:Option Nat) (r:List RO) (s:St) (ac:List Ft) (ct cx cy:Bool):LV->LV->LV->Prop
 | .p (.b t),.p (.b x),.p (.b y)=>(ct=true/\(t=true->cx=true)/\(t=false->cy=true))/\zF dr K r (s.set d (.p (.b (if t then x else y)))) ac
 | _,_,_=>False
def pkW (dr:Bool) (K:List RO->St->List Ft->Prop) (d:Option Nat) (r:List RO) (s:St) (ac:List Ft) (ct cx cy:Bool):LV->LV->LV->Option Bool->Prop
 | .p (.b t),.p (.b x),.p (.b y),some c=>(c=true->ct=true/\(t=true->cx=true)/\(t=false->cy=true))/\zF dr K r (s.set d (.g c (.p (.b (if t then x else y))))) ac
 | _,_,_,some false=>zF dr K r (s.set d (.g false (.p (.b false)))) ac
 | _,_,_,_=>False
def gdV (w:Bool):LV->Option Bool
 | .p (.b x)=>some (if w then x else !x)
 | .g c (.p (.b x))=>some (c && (if w then x else !x))
 | _=>none
section
variable {dr:Bool} {K:List RO->St->List Ft->Prop} {d:Option Nat} {af:List Nat} {r:List RO} {s:St} {acc ac:List Ft} {av:List (Nat × LObj)->List Ft}
theorem zCA (acc:List Ft) (s:St) (o:RO) (wr:List (Nat × LObj)):zT false acc s o wr=acc:=rfl
theorem zCz (acc:List Ft) (s:St) (o:RO) (wr:List (Nat × LObj)):zT true acc s o wr=zBB s o wr::acc:=rfl
theorem zAw:zF dr K [] s acc=K [] s acc:=rfl
theorem rs_mv (x:AOpd):zF dr K (⟨d,.mv,[x],none,af⟩::r) s acc=zF dr K r (s.set d (x.ev s)) (zT dr acc s ⟨d,.mv,[x],none,af⟩ []):=by
 simp only [zF,zd2,gOf,fin,St.wrs,Option.toList,true_and]
theorem zAx (x:AOpd) (g:Nat × Bool):zF dr K (⟨d,.mv,[x],some g,af⟩::r) s acc=mvG dr K d r s (zT dr acc s ⟨d,.mv,[x],some g,af⟩ []) (x.ev s) (gOf s (some g)):=by
 simp only [zF,zd2,fin,mvG];generalize gOf s (some g)=o;cases o<;>simp [St.wrs]
theorem zht {x y:LV} {t' x' y':Bool} (h1:t.un=.p (.b t')) (h2:x.un=.p (.b x')) (h3:y.un=.p (.b y')):zlm t x y=some ((t'=true->x.cnd=true)/\(t'=false->y.cnd=true),.b (if t' then x' else y')):=by simp only [zlm,h1,h2,h3]
theorem zhu {x y:LV} (h:∀ t' x' y',t.un=.p (.b t')->x.un=.p (.b x')->y.un=.p (.b y')->False):zlm t x y=none:=by
 unfold zlm
 split
 ·exact (h _ _ _ ‹_› ‹_› ‹_›).elim
 ·rfl
theorem zBa {x y:LV} (h:∀ t' x' y',t=.p (.b t')->x=.p (.b x')->y=.p (.b y')->False):pkV dr K d r s ac ct cx cy t x y=False:=by
 unfold pkV
 split
 ·exact (h _ _ _ rfl rfl rfl).elim
 ·rfl
theorem zA9 {x y:LV} {g:Option Bool} (h:∀ t' x' y',t=.p (.b t')->x=.p (.b x')->y=.p (.b y')->False):pkW dr K d r s ac ct cx cy t x y g=(match g with|some false=>zF dr K r (s.set d (.g false (.p (.b false)))) ac|_=>False):=by
 unfold pkW
 split
 ·exact (h _ _ _ rfl rfl rfl).elim
 ·rfl
 ·rename_i h1 h2;cases g with
  | none=>rfl
  | some c=>cases c with
   | true=>rfl
   | false=>exact absurd rfl (by assumption)
theorem zxC (x y z:AOpd):zF dr K (⟨d,.pick,[x,y,z],none,af⟩::r) s acc=pkV dr K d r s (zT dr acc s ⟨d,.pick,[x,y,z],none,af⟩ []) (x.ev s).cnd (y.ev s).cnd (z.ev s).cnd (x.ev s).un (y.ev s).un (z.ev s).un:=by
 simp only [zF,zd2,gOf,fin]
 by_cases h:∃ t' x' y',(x.ev s).un=.p (.b t')/\(y.ev s).un=.p (.b x')/\(z.ev s).un=.p (.b y')
 ·obtain ⟨t',x',y',e1,e2,e3⟩:=h;rw [zht e1 e2 e3,e1,e2,e3];simp only [Option.map,zdm,forall_const,St.wrs,Option.toList,pkV]
 ·rw [zhu λt' x' y' e1 e2 e3=>h ⟨t',x',y',e1,e2,e3⟩,zBa λt' x' y' e1 e2 e3=>h ⟨t',x',y',e1,e2,e3⟩]
  rfl
theorem ztp (x y z:AOpd) (g:Nat × Bool):zF dr K (⟨d,.pick,[x,y,z],some g,af⟩::r) s acc=pkW dr K d r s (zT dr acc s ⟨d,.pick,[x,y,z],some g,af⟩ []) (x.ev s).cnd (y.ev s).cnd (z.ev s).cnd (x.ev s).un (y.ev s).un (z.ev s).un (gOf s (some g)):=by
 simp only [zF,zd2,fin]
 by_cases h:∃ t' x' y',(x.ev s).un=.p (.b t')/\(y.ev s).un=.p (.b x')/\(z.ev s).un=.p (.b y')
 ·obtain ⟨t',x',y',e1,e2,e3⟩:=h;rw [zht e1 e2 e3,e1,e2,e3];generalize gOf s (some g)=o;cases o<;>simp only [Option.map,zdm,St.wrs,Option.toList,pkW,LV.under]
 ·rw [zhu λt' x' y' e1 e2 e3=>h ⟨t',x',y',e1,e2,e3⟩,zA9 λt' x' y' e1 e2 e3=>h ⟨t',x',y',e1,e2,e3⟩]
  generalize gOf s (some g)=o;cases o with
  | none=>rfl
  | some c=>cases c<;>simp [zdm,fin,LV.under,St.wrs]
theorem gOf_v (t:Nat) (w:Bool):gOf s (some (t,w))=gdV w (s.get t):=by
 simp only [gOf,gdV]
 rfl
theorem zmm {o:RO} (h:o.op.isEv=true) {c:Bool} (hc:gOf s o.guard=some c):zd2 s o=zdm o.guard c ((zb (o.dst.getD 0) s.look o.op (uns (zd s o.args))).map λr=>
    ((c=true->zL (zd s o.args)=true/\r.1)/\(r.2.wr.isSome=true->c=true)/\(r.2.nw=true->s.look (o.dst.getD 0)=none),fin o.guard c r.2.val,r.2.wr)):=by
 simp only [zd2,hc]
 split
 ·rename_i e _;rw [e] at h;cases h
 ·rename_i e _;rw [e] at h;cases h
 ·rfl
theorem zp2 {o:RO} (h:o.op.isEv=true):zF dr K (o::r) s acc=(match zd2 s o with
   | some (pre,v,wr)=>pre/\zF dr K r ((s.wrs wr.toList).set o.dst v) (zT dr acc s o wr.toList)
   | none=>False):=by
 conv=>lhs;unfold zF
 split
 ·rename_i e;rw [e] at h;cases h
 ·rename_i e;rw [e] at h;cases h
 ·rename_i e;rw [e] at h;cases h
 ·rename_i e;rw [e] at h;cases h
 ·rfl
theorem zaC (h:op.isEv=true) (args:List AOpd):zF dr K (⟨d,op,args,none,af⟩::r) s acc=evK dr K d r s (zT dr acc s ⟨d,op,args,none,af⟩) (zL (zd s args)) (zb (d.getD 0) s.look op (uns (zd s args))):=by
 rw [zp2 (by exact h),zmm (by exact h) (c:=true) rfl]
 dsimp only;generalize zb _ _ _ _=o;cases o with
 | none=>rfl
 | some x=>
  obtain ⟨pre,eff⟩:=x;simp only [Option.map,zdm,evK,fin,true_implies,implies_true,true_and,forall_const,and_assoc]
theorem zP (h:op.isEv=true) (args:List AOpd) (g:Nat × Bool):zF dr K (⟨d,op,args,some g,af⟩::r) s acc=evG dr K d r s (zT dr acc s ⟨d,op,args,some g,af⟩) (zL (zd s args)) (gOf s (some g)) (zb (d.getD 0) s.look op (uns (zd s args))):=by
 rw [zp2 (by exact h)]
 cases hg:gOf s (some g) with
 | none=>
  have:zd2 s ⟨d,op,args,some g,af⟩=none:=by simp only [zd2,hg]
  rw [this];generalize zb _ _ _ _=o;cases o<;>rfl
 | some c=>
  rw [zmm (by exact h) (c:=c) hg]
  dsimp only;generalize zb _ _ _ _=o;cases o with
  | none=>cases c<;>simp [zdm,evG,fin,LV.under,St.wrs]
  | some x=>
   obtain ⟨pre,eff⟩:=x;simp only [Option.map,zdm,evG,fin,and_assoc]
theorem zuX (cn:Bool) (pre:Prop) (v:LV) (wr:Option (Nat × LObj)) (nw:Bool) (rd:List Nat):evK dr K d r s av cn (some (pre,⟨v,wr,nw,rd⟩))=((cn=true/\pre)/\(nw=true->s.look (d.getD 0)=none)/\zF dr K r ((s.wrs wr.toList).set d v) (av wr.toList)):=rfl
theorem zuY (cn c:Bool) (pre:Prop) (v:LV) (wr:Option (Nat × LObj)) (nw:Bool) (rd:List Nat):evG dr K d r s av cn (some c) (some (pre,⟨v,wr,nw,rd⟩))=((c=true->cn=true/\pre)/\(wr.isSome=true->c=true)/\(nw=true->s.look (d.getD 0)=none)/\zF dr K r ((s.wrs wr.toList).set d (v.under c)) (av wr.toList)):=rfl
theorem zuZ (cn:Bool):evG dr K d r s av cn (some false) none=zF dr K r (s.set d (.g false (.p (.b false)))) (av []):=rfl
theorem zlV (d:Nat) (look:Nat->Option LObj) (o:BinOp) (k:IntKind) (n:Int):zb d look (.bin o) [.p .any,.p (.i k n)]=none:=rfl
theorem zlU (d:Nat) (look:Nat->Option LObj) (o:BinOp) (k:IntKind) (n:Int):zb d look (.bin o) [.p (.i k n),.p .any]=none:=rfl
theorem zlT (d:Nat) (look:Nat->Option LObj) (o:BinOp) (k:IntKind) (n:Int) (b:Bool):zb d look (.bin o) [.p (.b b),.p (.i k n)]=none:=rfl
theorem zlS (d:Nat) (look:Nat->Option LObj) (o:BinOp) (k:IntKind) (n:Int) (b:Bool):zb d look (.bin o) [.p (.i k n),.p (.b b)]=none:=rfl
theorem evK_p (cn:Bool) (pre:Prop) (v:PV):evK dr K d r s av cn (some (pre,.ofP v))=((cn=true/\pre)/\zF dr K r (s.set d (.p v)) (av [])):=by simp [evK,Eff.ofP,St.wrs]
theorem evG_p (cn c:Bool) (pre:Prop) (v:PV):evG dr K d r s av cn (some c) (some (pre,.ofP v))=((c=true->cn=true/\pre)/\zF dr K r (s.set d (.g c (.p v))) (av [])):=by simp [evG,Eff.ofP,St.wrs,LV.under]
theorem evK_v (cn:Bool) (pre:Prop) (v:LV):evK dr K d r s av cn (some (pre,.ofV v))=((cn=true/\pre)/\zF dr K r (s.set d v) (av [])):=by simp [evK,Eff.ofV,St.wrs]
theorem evG_v (cn c:Bool) (pre:Prop) (v:LV):evG dr K d r s av cn (some c) (some (pre,.ofV v))=((c=true->cn=true/\pre)/\zF dr K r (s.set d (v.under c)) (av [])):=by simp [evG,Eff.ofV,St.wrs]
theorem zuw (v:LV) (c:Bool):mvG dr K d r s ac v (some c)=zF dr K r (s.set d (v.under c)) ac:=rfl
theorem pkV_b (ct cx cy t x y:Bool):pkV dr K d r s ac ct cx cy (.p (.b t)) (.p (.b x)) (.p (.b y))=((ct=true/\(t=true->cx=true)/\(t=false->cy=true))/\zF dr K r (s.set d (.p (.b (if t then x else y)))) ac):=rfl
theorem pkW_b (c ct cx cy t x y:Bool):pkW dr K d r s ac ct cx cy (.p (.b t)) (.p (.b x)) (.p (.b y)) (some c)=((c=true->ct=true/\(t=true->cx=true)/\(t=false->cy=true))/\zF dr K r (s.set d (.g c (.p (.b (if t then x else y))))) ac):=rfl
theorem gdV_p (w x:Bool):gdV w (.p (.b x))=some (if w then x else !x):=rfl
theorem gdV_g (w c x:Bool):gdV w (.g c (.p (.b x)))=some (c && (if w then x else !x)):=rfl
end
section
variable {dr:Bool} {K:List RO->St->List Ft->Prop} {d:Option Nat} {af:List Nat} {r:List RO} {s:St} {acc:List Ft} (args:List AOpd) (g:Nat × Bool)
theorem ztk (z:List PV):zF dr K (⟨d,.alloc z,args,none,af⟩::r) s acc=evK dr K d r s (zT dr acc s ⟨d,.alloc z,args,none,af⟩) (zL (zd s args)) (zb (d.getD 0) s.look (.alloc z) (uns (zd s args))):=zaC rfl args
theorem zpO (z:List PV):zF dr K (⟨d,.alloc z,args,some g,af⟩::r) s acc=evG dr K d r s (zT dr acc s ⟨d,.alloc z,args,some g,af⟩) (zL (zd s args)) (gOf s (some g)) (zb (d.getD 0) s.look (.alloc z) (uns (zd s args))):=zP rfl args g
theorem zAt :zF dr K (⟨d,.box,args,none,af⟩::r) s acc=evK dr K d r s (zT dr acc s ⟨d,.box,args,none,af⟩) (zL (zd s args)) (zb (d.getD 0) s.look (.box) (uns (zd s args))):=zaC rfl args
theorem zxk :zF dr K (⟨d,.box,args,some g,af⟩::r) s acc=evG dr K d r s (zT dr acc s ⟨d,.box,args,some g,af⟩) (zL (zd s args)) (gOf s (some g)) (zb (d.getD 0) s.look (.box) (uns (zd s args))):=zP rfl args g
theorem ztj (z:List PV) (pl:List (Nat × Nat)):zF dr K (⟨d,.build z pl,args,none,af⟩::r) s acc=evK dr K d r s (zT dr acc s ⟨d,.build z pl,args,none,af⟩) (zL (zd s args)) (zb (d.getD 0) s.look (.build z pl) (uns (zd s args))):=zaC rfl args
theorem zpN (z:List PV) (pl:List (Nat × Nat)):zF dr K (⟨d,.build z pl,args,some g,af⟩::r) s acc=evG dr K d r s (zT dr acc s ⟨d,.build z pl,args,some g,af⟩) (zL (zd s args)) (gOf s (some g)) (zb (d.getD 0) s.look (.build z pl) (uns (zd s args))):=zP rfl args g
theorem zpS (e sz:Nat) (z:PV) (len:Nat) (idx:List Nat):zF dr K (⟨d,.bslice e sz z len idx,args,none,af⟩::r) s acc=evK dr K d r s (zT dr acc s ⟨d,.bslice e sz z len idx,args,none,af⟩) (zL (zd s args)) (zb (d.getD 0) s.look (.bslice e sz z len idx) (uns (zd s args))):=zaC rfl args
theorem znO (e sz:Nat) (z:PV) (len:Nat) (idx:List Nat):zF dr K (⟨d,.bslice e sz z len idx,args,some g,af⟩::r) s acc=evG dr K d r s (zT dr acc s ⟨d,.bslice e sz z len idx,args,some g,af⟩) (zL (zd s args)) (gOf s (some g)) (zb (d.getD 0) s.look (.bslice e sz z len idx) (uns (zd s args))):=zP rfl args g
theorem zxs (sz:Nat) (ag:Bool):zF dr K (⟨d,.load sz ag,args,none,af⟩::r) s acc=evK dr K d r s (zT dr acc s ⟨d,.load sz ag,args,none,af⟩) (zL (zd s args)) (zb (d.getD 0) s.look (.load sz ag) (uns (zd s args))):=zaC rfl args
theorem zs8 (sz:Nat) (ag:Bool):zF dr K (⟨d,.load sz ag,args,some g,af⟩::r) s acc=evG dr K d r s (zT dr acc s ⟨d,.load sz ag,args,some g,af⟩) (zL (zd s args)) (gOf s (some g)) (zb (d.getD 0) s.look (.load sz ag) (uns (zd s args))):=zP rfl args g
theorem zte (sz:Nat):zF dr K (⟨d,.store sz,args,none,af⟩::r) s acc=evK dr K d r s (zT dr acc s ⟨d,.store sz,args,none,af⟩) (zL (zd s args)) (zb (d.getD 0) s.look (.store sz) (uns (zd s args))):=zaC rfl args
theorem zpI (sz:Nat):zF dr K (⟨d,.store sz,args,some g,af⟩::r) s acc=evG dr K d r s (zT dr acc s ⟨d,.store sz,args,some g,af⟩) (zL (zd s args)) (gOf s (some g)) (zb (d.getD 0) s.look (.store sz) (uns (zd s args))):=zP rfl args g
theorem zpR :zF dr K (⟨d,.nilchk,args,none,af⟩::r) s acc=evK dr K d r s (zT dr acc s ⟨d,.nilchk,args,none,af⟩) (zL (zd s args)) (zb (d.getD 0) s.look (.nilchk) (uns (zd s args))):=zaC rfl args
theorem znN :zF dr K (⟨d,.nilchk,args,some g,af⟩::r) s acc=evG dr K d r s (zT dr acc s ⟨d,.nilchk,args,some g,af⟩) (zL (zd s args)) (gOf s (some g)) (zb (d.getD 0) s.look (.nilchk) (uns (zd s args))):=zP rfl args g
theorem zAu (o:BinOp):zF dr K (⟨d,.bin o,args,none,af⟩::r) s acc=evK dr K d r s (zT dr acc s ⟨d,.bin o,args,none,af⟩) (zL (zd s args)) (zb (d.getD 0) s.look (.bin o) (uns (zd s args))):=zaC rfl args
theorem zxl (o:BinOp):zF dr K (⟨d,.bin o,args,some g,af⟩::r) s acc=evG dr K d r s (zT dr acc s ⟨d,.bin o,args,some g,af⟩) (zL (zd s args)) (gOf s (some g)) (zb (d.getD 0) s.look (.bin o) (uns (zd s args))):=zP rfl args g
theorem rv_eq (n:Bool) (ks:List Nat) (ag:Bool):zF dr K (⟨d,.eq n ks ag,args,none,af⟩::r) s acc=evK dr K d r s (zT dr acc s ⟨d,.eq n ks ag,args,none,af⟩) (zL (zd s args)) (zb (d.getD 0) s.look (.eq n ks ag) (uns (zd s args))):=zaC rfl args
theorem zAk (n:Bool) (ks:List Nat) (ag:Bool):zF dr K (⟨d,.eq n ks ag,args,some g,af⟩::r) s acc=evG dr K d r s (zT dr acc s ⟨d,.eq n ks ag,args,some g,af⟩) (zL (zd s args)) (gOf s (some g)) (zb (d.getD 0) s.look (.eq n ks ag) (uns (zd s args))):=zP rfl args g
theorem zAm :zF dr K (⟨d,.not,args,none,af⟩::r) s acc=evK dr K d r s (zT dr acc s ⟨d,.not,args,none,af⟩) (zL (zd s args)) (zb (d.getD 0) s.look (.not) (uns (zd s args))):=zaC rfl args
theorem zxd :zF dr K (⟨d,.not,args,some g,af⟩::r) s acc=evG dr K d r s (zT dr acc s ⟨d,.not,args,some g,af⟩) (zL (zd s args)) (gOf s (some g)) (zb (d.getD 0) s.look (.not) (uns (zd s args))):=zP rfl args g
theorem zAn :zF dr K (⟨d,.neg,args,none,af⟩::r) s acc=evK dr K d r s (zT dr acc s ⟨d,.neg,args,none,af⟩) (zL (zd s args)) (zb (d.getD 0) s.look (.neg) (uns (zd s args))):=zaC rfl args
theorem zxe :zF dr K (⟨d,.neg,args,some g,af⟩::r) s acc=evG dr K d r s (zT dr acc s ⟨d,.neg,args,some g,af⟩) (zL (zd s args)) (gOf s (some g)) (zb (d.getD 0) s.look (.neg) (uns (zd s args))):=zP rfl args g
theorem zAr (k:IntKind):zF dr K (⟨d,.cvt k,args,none,af⟩::r) s acc=evK dr K d r s (zT dr acc s ⟨d,.cvt k,args,none,af⟩) (zL (zd s args)) (zb (d.getD 0) s.look (.cvt k) (uns (zd s args))):=zaC rfl args
theorem zxi (k:IntKind):zF dr K (⟨d,.cvt k,args,some g,af⟩::r) s acc=evG dr K d r s (zT dr acc s ⟨d,.cvt k,args,some g,af⟩) (zL (zd s args)) (gOf s (some g)) (zb (d.getD 0) s.look (.cvt k) (uns (zd s args))):=zP rfl args g
theorem zAs :zF dr K (⟨d,.cvs,args,none,af⟩::r) s acc=evK dr K d r s (zT dr acc s ⟨d,.cvs,args,none,af⟩) (zL (zd s args)) (zb (d.getD 0) s.look (.cvs) (uns (zd s args))):=zaC rfl args
theorem zxj :zF dr K (⟨d,.cvs,args,some g,af⟩::r) s acc=evG dr K d r s (zT dr acc s ⟨d,.cvs,args,some g,af⟩) (zL (zd s args)) (gOf s (some g)) (zb (d.getD 0) s.look (.cvs) (uns (zd s args))):=zP rfl args g
theorem zxp (f:Fn) (n:Nat):zF dr K (⟨d,.mkfn f n,args,none,af⟩::r) s acc=evK dr K d r s (zT dr acc s ⟨d,.mkfn f n,args,none,af⟩) (zL (zd s args)) (zb (d.getD 0) s.look (.mkfn f n) (uns (zd s args))):=zaC rfl args
theorem zs5 (f:Fn) (n:Nat):zF dr K (⟨d,.mkfn f n,args,some g,af⟩::r) s acc=evG dr K d r s (zT dr acc s ⟨d,.mkfn f n,args,some g,af⟩) (zL (zd s args)) (gOf s (some g)) (zb (d.getD 0) s.look (.mkfn f n) (uns (zd s args))):=zP rfl args g
theorem zpP (a b:Bool):zF dr K (⟨d,.sliceS a b,args,none,af⟩::r) s acc=evK dr K d r s (zT dr acc s ⟨d,.sliceS a b,args,none,af⟩) (zL (zd s args)) (zb (d.getD 0) s.look (.sliceS a b) (uns (zd s args))):=zaC rfl args
theorem znL (a b:Bool):zF dr K (⟨d,.sliceS a b,args,some g,af⟩::r) s acc=evG dr K d r s (zT dr acc s ⟨d,.sliceS a b,args,some g,af⟩) (zL (zd s args)) (gOf s (some g)) (zb (d.getD 0) s.look (.sliceS a b) (uns (zd s args))):=zP rfl args g
theorem zpQ (sz:Nat) (a b:Bool):zF dr K (⟨d,.sliceL sz a b,args,none,af⟩::r) s acc=evK dr K d r s (zT dr acc s ⟨d,.sliceL sz a b,args,none,af⟩) (zL (zd s args)) (zb (d.getD 0) s.look (.sliceL sz a b) (uns (zd s args))):=zaC rfl args
theorem znM (sz:Nat) (a b:Bool):zF dr K (⟨d,.sliceL sz a b,args,some g,af⟩::r) s acc=evG dr K d r s (zT dr acc s ⟨d,.sliceL sz a b,args,some g,af⟩) (zL (zd s args)) (gOf s (some g)) (zb (d.getD 0) s.look (.sliceL sz a b) (uns (zd s args))):=zP rfl args g
theorem zxw (off:Nat):zF dr K (⟨d,.fadr off,args,none,af⟩::r) s acc=evK dr K d r s (zT dr acc s ⟨d,.fadr off,args,none,af⟩) (zL (zd s args)) (zb (d.getD 0) s.look (.fadr off) (uns (zd s args))):=zaC rfl args
theorem ztc (off:Nat):zF dr K (⟨d,.fadr off,args,some g,af⟩::r) s acc=evG dr K d r s (zT dr acc s ⟨d,.fadr off,args,some g,af⟩) (zL (zd s args)) (gOf s (some g)) (zb (d.getD 0) s.look (.fadr off) (uns (zd s args))):=zP rfl args g
theorem zAp (off sz:Nat) (ag:Bool):zF dr K (⟨d,.fld off sz ag,args,none,af⟩::r) s acc=evK dr K d r s (zT dr acc s ⟨d,.fld off sz ag,args,none,af⟩) (zL (zd s args)) (zb (d.getD 0) s.look (.fld off sz ag) (uns (zd s args))):=zaC rfl args
theorem zxg (off sz:Nat) (ag:Bool):zF dr K (⟨d,.fld off sz ag,args,some g,af⟩::r) s acc=evG dr K d r s (zT dr acc s ⟨d,.fld off sz ag,args,some g,af⟩) (zL (zd s args)) (gOf s (some g)) (zb (d.getD 0) s.look (.fld off sz ag) (uns (zd s args))):=zP rfl args g
theorem zxv (n sz:Nat) (ag:Bool):zF dr K (⟨d,.idxA n sz ag,args,none,af⟩::r) s acc=evK dr K d r s (zT dr acc s ⟨d,.idxA n sz ag,args,none,af⟩) (zL (zd s args)) (zb (d.getD 0) s.look (.idxA n sz ag) (uns (zd s args))):=zaC rfl args
theorem ztb (n sz:Nat) (ag:Bool):zF dr K (⟨d,.idxA n sz ag,args,some g,af⟩::r) s acc=evG dr K d r s (zT dr acc s ⟨d,.idxA n sz ag,args,some g,af⟩) (zL (zd s args)) (gOf s (some g)) (zb (d.getD 0) s.look (.idxA n sz ag) (uns (zd s args))):=zP rfl args g
theorem zxu :zF dr K (⟨d,.idxS,args,none,af⟩::r) s acc=evK dr K d r s (zT dr acc s ⟨d,.idxS,args,none,af⟩) (zL (zd s args)) (zb (d.getD 0) s.look (.idxS) (uns (zd s args))):=zaC rfl args
theorem zta :zF dr K (⟨d,.idxS,args,some g,af⟩::r) s acc=evG dr K d r s (zT dr acc s ⟨d,.idxS,args,some g,af⟩) (zL (zd s args)) (gOf s (some g)) (zb (d.getD 0) s.look (.idxS) (uns (zd s args))):=zP rfl args g
theorem zth (sz:Nat):zF dr K (⟨d,.iadrS sz,args,none,af⟩::r) s acc=evK dr K d r s (zT dr acc s ⟨d,.iadrS sz,args,none,af⟩) (zL (zd s args)) (zb (d.getD 0) s.look (.iadrS sz) (uns (zd s args))):=zaC rfl args
theorem zpL (sz:Nat):zF dr K (⟨d,.iadrS sz,args,some g,af⟩::r) s acc=evG dr K d r s (zT dr acc s ⟨d,.iadrS sz,args,some g,af⟩) (zL (zd s args)) (gOf s (some g)) (zb (d.getD 0) s.look (.iadrS sz) (uns (zd s args))):=zP rfl args g
theorem zti (n sz:Nat):zF dr K (⟨d,.iadrA n sz,args,none,af⟩::r) s acc=evK dr K d r s (zT dr acc s ⟨d,.iadrA n sz,args,none,af⟩) (zL (zd s args)) (zb (d.getD 0) s.look (.iadrA n sz) (uns (zd s args))):=zaC rfl args
theorem zpM (n sz:Nat):zF dr K (⟨d,.iadrA n sz,args,some g,af⟩::r) s acc=evG dr K d r s (zT dr acc s ⟨d,.iadrA n sz,args,some g,af⟩) (zL (zd s args)) (gOf s (some g)) (zb (d.getD 0) s.look (.iadrA n sz) (uns (zd s args))):=zP rfl args g
theorem zAo (b:Bool):zF dr K (⟨d,.len b,args,none,af⟩::r) s acc=evK dr K d r s (zT dr acc s ⟨d,.len b,args,none,af⟩) (zL (zd s args)) (zb (d.getD 0) s.look (.len b) (uns (zd s args))):=zaC rfl args
theorem zxf (b:Bool):zF dr K (⟨d,.len b,args,some g,af⟩::r) s acc=evG dr K d r s (zT dr acc s ⟨d,.len b,args,some g,af⟩) (zL (zd s args)) (gOf s (some g)) (zb (d.getD 0) s.look (.len b) (uns (zd s args))):=zP rfl args g
theorem zAv (e sz b:Nat):zF dr K (⟨d,.app e sz b,args,none,af⟩::r) s acc=evK dr K d r s (zT dr acc s ⟨d,.app e sz b,args,none,af⟩) (zL (zd s args)) (zb (d.getD 0) s.look (.app e sz b) (uns (zd s args))):=zaC rfl args
theorem zxm (e sz b:Nat):zF dr K (⟨d,.app e sz b,args,some g,af⟩::r) s acc=evG dr K d r s (zT dr acc s ⟨d,.app e sz b,args,some g,af⟩) (zL (zd s args)) (gOf s (some g)) (zb (d.getD 0) s.look (.app e sz b) (uns (zd s args))):=zP rfl args g
theorem rv_mx :zF dr K (⟨d,.mx,args,none,af⟩::r) s acc=evK dr K d r s (zT dr acc s ⟨d,.mx,args,none,af⟩) (zL (zd s args)) (zb (d.getD 0) s.look (.mx) (uns (zd s args))):=zaC rfl args
theorem zAi :zF dr K (⟨d,.mx,args,some g,af⟩::r) s acc=evG dr K d r s (zT dr acc s ⟨d,.mx,args,some g,af⟩) (zL (zd s args)) (gOf s (some g)) (zb (d.getD 0) s.look (.mx) (uns (zd s args))):=zP rfl args g
theorem rv_mn :zF dr K (⟨d,.mn,args,none,af⟩::r) s acc=evK dr K d r s (zT dr acc s ⟨d,.mn,args,none,af⟩) (zL (zd s args)) (zb (d.getD 0) s.look (.mn) (uns (zd s args))):=zaC rfl args
theorem zAj :zF dr K (⟨d,.mn,args,some g,af⟩::r) s acc=evG dr K d r s (zT dr acc s ⟨d,.mn,args,some g,af⟩) (zL (zd s args)) (gOf s (some g)) (zb (d.getD 0) s.look (.mn) (uns (zd s args))):=zP rfl args g
theorem zAq (j:Nat):zF dr K (⟨d,.ext j,args,none,af⟩::r) s acc=evK dr K d r s (zT dr acc s ⟨d,.ext j,args,none,af⟩) (zL (zd s args)) (zb (d.getD 0) s.look (.ext j) (uns (zd s args))):=zaC rfl args
theorem zxh (j:Nat):zF dr K (⟨d,.ext j,args,some g,af⟩::r) s acc=evG dr K d r s (zT dr acc s ⟨d,.ext j,args,some g,af⟩) (zL (zd s args)) (gOf s (some g)) (zb (d.getD 0) s.look (.ext j) (uns (zd s args))):=zP rfl args g
theorem ztf :zF dr K (⟨d,.range,args,none,af⟩::r) s acc=evK dr K d r s (zT dr acc s ⟨d,.range,args,none,af⟩) (zL (zd s args)) (zb (d.getD 0) s.look (.range) (uns (zd s args))):=zaC rfl args
theorem zpJ :zF dr K (⟨d,.range,args,some g,af⟩::r) s acc=evG dr K d r s (zT dr acc s ⟨d,.range,args,some g,af⟩) (zL (zd s args)) (gOf s (some g)) (zb (d.getD 0) s.look (.range) (uns (zd s args))):=zP rfl args g
theorem zxn :zF dr K (⟨d,.next,args,none,af⟩::r) s acc=evK dr K d r s (zT dr acc s ⟨d,.next,args,none,af⟩) (zL (zd s args)) (zb (d.getD 0) s.look (.next) (uns (zd s args))):=zaC rfl args
theorem zs3 :zF dr K (⟨d,.next,args,some g,af⟩::r) s acc=evG dr K d r s (zT dr acc s ⟨d,.next,args,some g,af⟩) (zL (zd s args)) (gOf s (some g)) (zb (d.getD 0) s.look (.next) (uns (zd s args))):=zP rfl args g
theorem znP (e sz bytes:Nat) (z:PV):zF dr K (⟨d,.mkslice e sz bytes z,args,none,af⟩::r) s acc=evK dr K d r s (zT dr acc s ⟨d,.mkslice e sz bytes z,args,none,af⟩) (zL (zd s args)) (zb (d.getD 0) s.look (.mkslice e sz bytes z) (uns (zd s args))):=zaC rfl args
theorem zkW (e sz bytes:Nat) (z:PV):zF dr K (⟨d,.mkslice e sz bytes z,args,some g,af⟩::r) s acc=evG dr K d r s (zT dr acc s ⟨d,.mkslice e sz bytes z,args,some g,af⟩) (zL (zd s args)) (gOf s (some g)) (zb (d.getD 0) s.look (.mkslice e sz bytes z) (uns (zd s args))):=zP rfl args g
theorem zxx (sz:Nat):zF dr K (⟨d,.copy sz,args,none,af⟩::r) s acc=evK dr K d r s (zT dr acc s ⟨d,.copy sz,args,none,af⟩) (zL (zd s args)) (zb (d.getD 0) s.look (.copy sz) (uns (zd s args))):=zaC rfl args
theorem ztd (sz:Nat):zF dr K (⟨d,.copy sz,args,some g,af⟩::r) s acc=evG dr K d r s (zT dr acc s ⟨d,.copy sz,args,some g,af⟩) (zL (zd s args)) (gOf s (some g)) (zb (d.getD 0) s.look (.copy sz) (uns (zd s args))):=zP rfl args g
theorem ztg :zF dr K (⟨d,.mkmap,args,none,af⟩::r) s acc=evK dr K d r s (zT dr acc s ⟨d,.mkmap,args,none,af⟩) (zL (zd s args)) (zb (d.getD 0) s.look (.mkmap) (uns (zd s args))):=zaC rfl args
theorem zpK :zF dr K (⟨d,.mkmap,args,some g,af⟩::r) s acc=evG dr K d r s (zT dr acc s ⟨d,.mkmap,args,some g,af⟩) (zL (zd s args)) (gOf s (some g)) (zb (d.getD 0) s.look (.mkmap) (uns (zd s args))):=zP rfl args g
theorem zxt (ks:List Nat) (ag:Bool) (z:PV) (ok:Bool):zF dr K (⟨d,.lkup ks ag z ok,args,none,af⟩::r) s acc=evK dr K d r s (zT dr acc s ⟨d,.lkup ks ag z ok,args,none,af⟩) (zL (zd s args)) (zb (d.getD 0) s.look (.lkup ks ag z ok) (uns (zd s args))):=zaC rfl args
theorem zs9 (ks:List Nat) (ag:Bool) (z:PV) (ok:Bool):zF dr K (⟨d,.lkup ks ag z ok,args,some g,af⟩::r) s acc=evG dr K d r s (zT dr acc s ⟨d,.lkup ks ag z ok,args,some g,af⟩) (zL (zd s args)) (gOf s (some g)) (zb (d.getD 0) s.look (.lkup ks ag z ok) (uns (zd s args))):=zP rfl args g
theorem zxo (ks:List Nat) (ag:Bool):zF dr K (⟨d,.mset ks ag,args,none,af⟩::r) s acc=evK dr K d r s (zT dr acc s ⟨d,.mset ks ag,args,none,af⟩) (zL (zd s args)) (zb (d.getD 0) s.look (.mset ks ag) (uns (zd s args))):=zaC rfl args
theorem zs4 (ks:List Nat) (ag:Bool):zF dr K (⟨d,.mset ks ag,args,some g,af⟩::r) s acc=evG dr K d r s (zT dr acc s ⟨d,.mset ks ag,args,some g,af⟩) (zL (zd s args)) (gOf s (some g)) (zb (d.getD 0) s.look (.mset ks ag) (uns (zd s args))):=zP rfl args g
theorem zxr (ks:List Nat) (ag:Bool) (z:PV):zF dr K (⟨d,.ment ks ag z,args,none,af⟩::r) s acc=evK dr K d r s (zT dr acc s ⟨d,.ment ks ag z,args,none,af⟩) (zL (zd s args)) (zb (d.getD 0) s.look (.ment ks ag z) (uns (zd s args))):=zaC rfl args
theorem zs7 (ks:List Nat) (ag:Bool) (z:PV):zF dr K (⟨d,.ment ks ag z,args,some g,af⟩::r) s acc=evG dr K d r s (zT dr acc s ⟨d,.ment ks ag z,args,some g,af⟩) (zL (zd s args)) (gOf s (some g)) (zb (d.getD 0) s.look (.ment ks ag z) (uns (zd s args))):=zP rfl args g
theorem zxq :zF dr K (⟨d,.mest,args,none,af⟩::r) s acc=evK dr K d r s (zT dr acc s ⟨d,.mest,args,none,af⟩) (zL (zd s args)) (zb (d.getD 0) s.look (.mest) (uns (zd s args))):=zaC rfl args
theorem zs6 :zF dr K (⟨d,.mest,args,some g,af⟩::r) s acc=evG dr K d r s (zT dr acc s ⟨d,.mest,args,some g,af⟩) (zL (zd s args)) (gOf s (some g)) (zb (d.getD 0) s.look (.mest) (uns (zd s args))):=zP rfl args g
theorem zAl (n:Nat):zF dr K (⟨d,.slA n,args,none,af⟩::r) s acc=evK dr K d r s (zT dr acc s ⟨d,.slA n,args,none,af⟩) (zL (zd s args)) (zb (d.getD 0) s.look (.slA n) (uns (zd s args))):=zaC rfl args
theorem zxc (n:Nat):zF dr K (⟨d,.slA n,args,some g,af⟩::r) s acc=evG dr K d r s (zT dr acc s ⟨d,.slA n,args,some g,af⟩) (zL (zd s args)) (gOf s (some g)) (zb (d.getD 0) s.look (.slA n) (uns (zd s args))):=zP rfl args g
end
section
variable (e:List (Nat × LV)) (o:List (Nat × LObj)) (t:List (List PV)) (b:Bool)
theorem zAh (d:Nat) (v:LV):(St.mk e o t b).set (some d) v=⟨(d,v)::e,o,t,b⟩:=rfl
theorem zAg (v:LV):(St.mk e o t b).set none v=⟨e,o,t,b⟩:=rfl
theorem zBx (k:Nat):(St.mk e o t b).get k=zS e k:=rfl
theorem zyu (k:Nat):(St.mk e o t b).look k=zm o k:=rfl
theorem zw2:(St.mk e o t b).wrs []=⟨e,o,t,b⟩:=rfl
theorem zsF:(St.mk e o t b).wrs (none:Option (Nat × LObj)).toList=⟨e,o,t,b⟩:=rfl
theorem zsE (k:Nat) (x:LObj):(St.mk e o t b).wrs (some (k,x)).toList=⟨e,zjU o k x,t,b⟩:=rfl
theorem zsG (k:Nat) (x:LObj) (r:List (Nat × LObj)):(St.mk e o t b).wrs ((k,x)::r)=(St.mk e (zjU o k x) t b).wrs r:=rfl
theorem ev_t (n:Nat):(AOpd.t n).ev (St.mk e o t b)=zS e n:=rfl
theorem ev_c (v:PV):(AOpd.c v).ev (St.mk e o t b)=.p v:=rfl
end
def agC:Bool->LV->List (Nat × LV)->Nat->LV
 | true,v,_,_=>v
 | false,_,r,t=>zS r t
def ogC:Bool->LObj->List (Nat × LObj)->Nat->Option LObj
 | true,v,_,_=>some v
 | false,_,r,t=>zm r t
def osC:Bool->Nat->LObj->List (Nat × LObj)->Nat->LObj->List (Nat × LObj)
 | true,k,_,r,_,v=>(k,v)::r
 | false,k,u,r,t,v=>(k,u)::zjU r t v
theorem agC_t (v:LV) (r:List (Nat × LV)) (t:Nat):agC true v r t=v:=rfl
theorem agC_f (v:LV) (r:List (Nat × LV)) (t:Nat):agC false v r t=zS r t:=rfl
theorem ogC_t (v:LObj) (r:List (Nat × LObj)) (t:Nat):ogC true v r t=some v:=rfl
theorem ogC_f (v:LObj) (r:List (Nat × LObj)) (t:Nat):ogC false v r t=zm r t:=rfl
theorem osC_t (k:Nat) (u:LObj) (r:List (Nat × LObj)) (t:Nat) (v:LObj):osC true k u r t v=(k,v)::r:=rfl
theorem osC_f (k:Nat) (u:LObj) (r:List (Nat × LObj)) (t:Nat) (v:LObj):osC false k u r t v=(k,u)::zjU r t v:=rfl
theorem zCx (k:Nat) (v:LV) (r:List (Nat × LV)) (t:Nat):zS ((k,v)::r) t=agC (t == k) v r t:=by
 by_cases h:t=k
 ·subst h;simp [zS,agC]
 ·have:(t == k)=false:=by simpa using h
  simp [zS,agC,h,this]
theorem zCw (t:Nat):zS [] t=.any:=rfl
theorem zBi (k:Nat) (v:LObj) (r:List (Nat × LObj)) (t:Nat):zm ((k,v)::r) t=ogC (t == k) v r t:=by
 by_cases h:t=k
 ·subst h;simp [zm,ogC]
 ·have:(t == k)=false:=by simpa using h
  simp [zm,ogC,h,this]
theorem zBh (t:Nat):zm [] t=none:=rfl
theorem zBc (k:Nat) (u:LObj) (r:List (Nat × LObj)) (t:Nat) (v:LObj):zjU ((k,u)::r) t v=osC (t == k) k u r t v:=by
 by_cases h:t=k
 ·subst h;simp [zjU,osC]
 ·have:(t == k)=false:=by simpa using h
  simp [zjU,osC,h,this]
theorem zBb (t:Nat) (v:LObj):zjU [] t v=[(t,v)]:=rfl
theorem zxP (s:St):zd s []=[]:=rfl
theorem ztE (s:St) (x:AOpd) (r:List AOpd):zd s (x::r)=x.ev s::zd s r:=rfl
theorem zw4:uns []=[]:=rfl
theorem zsI (x:LV) (r:List LV):uns (x::r)=x.un::uns r:=rfl
theorem zvA:zL []=true:=rfl
theorem zrS (x:LV) (r:List LV):zL (x::r)=(x.cnd && zL r):=rfl
theorem zxD (f:Nat) (args:List AOpd) (g:Option (Nat × Bool)) (s:St) (acc:List Ft) (dr:Bool) (K:List RO->St->List Ft->Prop) (d:Option Nat) (af:List Nat) (r:List RO):zF dr K (⟨d,.call f,args,g,af⟩::r) s acc=K (⟨d,.call f,args,g,af⟩::r) s acc:=rfl
theorem ztq (ng:Bool) (args:List AOpd) (g:Option (Nat × Bool)) (s:St) (acc:List Ft) (dr:Bool) (K:List RO->St->List Ft->Prop) (d:Option Nat) (af:List Nat) (r:List RO):zF dr K (⟨d,.isnil ng,args,g,af⟩::r) s acc=K (⟨d,.isnil ng,args,g,af⟩::r) s acc:=rfl
theorem zAy (ng:Nat) (args:List AOpd) (g:Option (Nat × Bool)) (s:St) (acc:List Ft) (dr:Bool) (K:List RO->St->List Ft->Prop) (d:Option Nat) (af:List Nat) (r:List RO):zF dr K (⟨d,.mit ng,args,g,af⟩::r) s acc=K (⟨d,.mit ng,args,g,af⟩::r) s acc:=rfl
theorem ztr (args:List AOpd) (g:Option (Nat × Bool)) (s:St) (acc:List Ft) (dr:Bool) (K:List RO->St->List Ft->Prop) (d:Option Nat) (af:List Nat) (r:List RO):zF dr K (⟨d,.callv,args,g,af⟩::r) s acc=K (⟨d,.callv,args,g,af⟩::r) s acc:=rfl
theorem fin_n (c:Bool) (v:LV):fin none c v=v:=rfl
theorem fin_s (g:Nat × Bool) (c:Bool) (v:LV):fin (some g) c v=v.under c:=rfl
theorem pk_or {p:Prop} [Decidable p] (u:Bool):(if p then true else u)=(decide p || u):=by by_cases h:p<;>simp [h]
theorem zA8 {p:Prop} [Decidable p] (u:Bool):(if p then u else false)=(decide p && u):=by by_cases h:p<;>simp [h]
theorem zw5 (c:Bool) (v:PV):(LV.p v).under c=.g c (.p v):=rfl
theorem zw6 (c c':Bool) (q:LV):(LV.g c' q).under c=.g (c && c') q:=rfl
theorem zsM (c:Bool) (k o:Nat):(LV.lp k o).under c=.g c (.lp k o):=rfl
theorem zpn (c:Bool) (k n:Nat):(LV.row k n).under c=.g c (.row k n):=rfl
theorem zsQ (c:Bool) (k n i o:Nat):(LV.ep k n i o).under c=.g c (.ep k n i o):=rfl
theorem zsO (c:Bool) (k:Nat):(LV.it k).under c=.g c (.it k):=rfl
theorem zsN (c:Bool) (k:Nat):(LV.lm k).under c=.g c (.lm k):=rfl
theorem zsP (c:Bool) (f:Fn) (x y:List LV):(LV.fn f x y).under c=.g c (.fn f x y):=rfl
theorem zpp (c:Bool) (x:List LV):(LV.agg x).under c=.g c (.agg x):=rfl
theorem zkO (c:Bool):LV.yield.under c=.g c .yield:=rfl
theorem zpo (c:Bool):LV.any.under c=.g c .any:=rfl
def ldLp (sz:Nat) (ag:Bool) (k off:Nat):Option LObj->Option (Prop × Eff)
 | some (.box cs _)=>some (off+sz<=cs.length/\(ag=false->sz=1),⟨if ag then packL ((cs.drop off).take sz) else (cs[off]?).getD .any,none,false,[k]⟩)
 | _=>none
def ldEp (sz:Nat) (ag:Bool) (k n i off:Nat):Option LObj->Option (Prop × Eff)
 | some (.row _ _ xs _)=>some (n=xs.length/\i < xs.length/\loadOk ((xs[i]?).getD .any) off sz ag,⟨.p (loadV ((xs[i]?).getD .any) off sz ag),none,false,[k]⟩)
 | _=>none
def stLp (look:Nat->Option LObj) (sz k off:Nat) (x:LV):Option LObj->Option (Prop × Eff)
 | some (.box cs false)=>some (off+sz<=cs.length/\x.cells.length=sz/\oneL look x.cells,⟨.any,some (k,.box (updL cs off x.cells) false),false,[k]⟩)
 | _=>none
def stEp (look:Nat->Option LObj) (sz k n i off:Nat) (v:PV):Option LObj->Option (Prop × Eff)
 | some (.row e esz xs false)=>some (n=xs.length/\i < xs.length/\v.cells.length=sz/\off+sz<=esz/\oneL look (v.cells.map .p),
    ⟨.any,some (k,.row e esz (xs.set i (if off=0/\sz=esz then v else .agg (updL ((xs[i]?).getD .any).cells off v.cells))) false),false,[k]⟩)
 | _=>none
def faEp (off k n i o:Nat):Option LObj->Option (Prop × Eff)
 | some (.row _ _ xs _)=>some (n=xs.length,.ofV (.ep k n i (o+off)))
 | _=>none
def iaRow (sz q n:Nat) (j:Int):Option LObj->Option (Prop × Eff)
 | some (.row _ sz' xs _)=>some (sz=sz'/\n=xs.length/\0<=j/\j < xs.length,⟨.ep q n j.toNat 0,none,false,[q]⟩)
 | _=>none
def lenK:Option (Prop × List PV × Nat × List Nat)->Option (Prop × Eff)
 | some (p,xs,_,rd)=>some (p,⟨.p (.i .i64 xs.length),none,false,rd⟩)
 | none=>none
def apN (d e sz bytes:Nat):Option (Prop × List PV × Nat × List Nat)->Option (Prop × Eff)
 | some (p,ys,s',rd)=>some (p/\(ys=[]\/s'=sz)/\oneAll ys=true/\ys.length*bytes<=140737488355328,⟨.row d ys.length,some (d,.row e sz ys false),true,rd⟩)
 | none=>none
def apR (e sz bytes k n:Nat):Option LObj->Option (Prop × List PV × Nat × List Nat)->Option (Prop × Eff)
 | some (.row e' s2 xs false),some (p,ys,s',rd)=>some (e=e'/\sz=s2/\n=xs.length/\p/\(ys=[]\/s'=sz)/\oneAll ys=true/\(xs.length+ys.length)*bytes<=140737488355328,⟨.row k (xs++ys).length,some (k,.row e sz (xs++ys) false),false,k::rd⟩)
 | _,_=>none
def elRow (k n:Nat):Option LObj->Option (Prop × List PV × Nat × List Nat)
 | some (.row _ sz xs _)=>some (n=xs.length,xs,sz,[k])
 | _=>none
def bdK (look:Nat->Option LObj) (z:List PV) (pl:List (Nat × Nat)) (ins:List LV):Option (List PV)->Option (Prop × Eff)
 | some vs=>some (fillOk z.length pl vs,.ofP (.agg (fillP z pl vs)))
 | none=>some (fillLOk look z.length pl ins,.ofV (.agg (zff (z.map .p) pl ins)))
theorem zBC (cs vs:List LV):zff cs [] vs=cs:=by cases vs<;>rfl
theorem zyM (cs:List LV) (off sz:Nat) (pl:List (Nat × Nat)) (v:LV) (vs:List LV):zff cs ((off,sz)::pl) (v::vs)=zff (cs.take off++v.cells++cs.drop (off+v.cells.length)) pl vs:=rfl
def bsK (d e sz:Nat) (z:PV) (len:Nat) (idx:List Nat):Option (List PV)->Option (Prop × Eff)
 | some vs=>some (fillEOk len sz idx vs,⟨.row d len,some (d,.row e sz (fillE (List.replicate len z) idx vs) false),true,[]⟩)
 | none=>none
def mfK (f:Fn) (a b:List LV):Option (List PV)->Option (List PV)->Option (Prop × Eff)
 | some x,some y=>some (True,.ofP (.fn f x y))
 | _,_=>some (True,.ofV (.fn f a b))
def apC (v:PV):Option (List PV)->Option (List PV)
 | some vs=>some (v::vs)
 | none=>none
def nxK (k:Nat):Option LObj->Option (Prop × Eff)
 | some (.sit s pos)=>some (s.size<=maxLen,⟨.p (nextV s pos),some (k,.sit s (nextP s pos)),false,[k]⟩)
 | _=>none
def cpR (sz k n:Nat):Option LObj->Option (Prop × List PV × Nat × List Nat)->Option (Prop × Eff)
 | some (.row e s2 xs false),some (p,ys,s',rd)=>some (sz=s2/\n=xs.length/\p/\(ys=[]\/s'=sz)/\oneAll ys=true,⟨.p (.i .i64 (min ys.length xs.length:Nat)),some (k,.row e sz (ys.take xs.length++xs.drop ys.length) false),false,k::rd⟩)
 | _,_=>none
def lkK (ks:List Nat) (ag:Bool) (z:PV) (ok:Bool) (key:PV):Option (List (PV × PV) × List Nat)->Option (Prop × Eff)
 | some (es,rd)=>some (keyOk ks ag key key/\keysOk ks ag key es,⟨.p (if ok then .tup [(mget key es).getD z,.b (mget key es).isSome] else (mget key es).getD z),none,false,rd⟩)
 | none=>none
def moK (k:Nat):Option LObj->Option (List (PV × PV) × List Nat)
 | some (.mp es _)=>some (es,[k])
 | _=>none
def msK (ks:List Nat) (ag:Bool) (k:Nat) (key v:PV):Option LObj->Option (Prop × Eff)
 | some (.mp es false)=>some (keyOk ks ag key key/\keysOk ks ag key es,⟨.any,some (k,.mp (mput key v es) false),false,[k]⟩)
 | _=>none
def meK (ks:List Nat) (ag:Bool) (z:PV) (k:Nat) (key:PV):Option LObj->Option (Prop × Eff)
 | some (.mp es false)=>some (keyOk ks ag key key/\keysOk ks ag key es/\es.length<=1000000,⟨.p (.tup [(mget key es).getD z,.i .i64 (zfa key es)]),some (k,.mp (mput key ((mget key es).getD z) es) false),false,[k]⟩)
 | _=>none
def mtK (k:Nat) (n:Int) (v:PV):Option LObj->Option (Prop × Eff)
 | some (.mp es false)=>some (0<=n/\n.toNat < es.length,⟨.any,some (k,.mp (mat n.toNat v es) false),false,[k]⟩)
 | _=>none
section
variable (d:Nat) (look:Nat->Option LObj)
theorem zu7 (z:List PV):zb d look (.alloc z) []=some (True,⟨.lp d 0,some (d,.box (z.map .p) false),true,[]⟩):=rfl
theorem zBW (x:LV):zb d look .box [x]=some (x.known look,⟨.lp d 0,some (d,.box x.cells false),true,[]⟩):=rfl
theorem zu6 (z:List PV) (pl:List (Nat × Nat)) (ins:List LV):zb d look (.build z pl) ins=bdK look z pl ins (zfF ins):=by
 simp only [zb];cases zfF ins<;>rfl
theorem zrx (e sz:Nat) (z:PV) (len:Nat) (idx:List Nat) (ins:List LV):zb d look (.bslice e sz z len idx) ins=bsK d e sz z len idx (zfF ins):=by
 simp only [zb];cases zfF ins<;>rfl
theorem zoE (sz:Nat) (ag:Bool) (v:PV) (off:Nat):zb d look (.load sz ag) [.p (.ip v off)]=some (loadOk v off sz ag,.ofP (loadV v off sz ag)):=rfl
theorem zoD (sz:Nat) (ag:Bool) (k off:Nat):zb d look (.load sz ag) [.lp k off]=ldLp sz ag k off (look k):=by
 simp only [zb];generalize look k=q;cases q with
 | none=>rfl
 | some ob=>cases ob<;>rfl
theorem zoF (sz:Nat) (ag:Bool) (k n i off:Nat):zb d look (.load sz ag) [.ep k n i off]=ldEp sz ag k n i off (look k):=by
 simp only [zb];generalize look k=q;cases q with
 | none=>rfl
 | some ob=>cases ob<;>rfl
theorem zlN (sz k off:Nat) (x:LV):zb d look (.store sz) [.lp k off,x]=stLp look sz k off x (look k):=by
 simp only [zb];cases look k with
 | none=>rfl
 | some ob=>cases ob with
  | box cs fz=>cases fz<;>rfl
  | _=>rfl
theorem zlO (sz k n i off:Nat) (v:PV):zb d look (.store sz) [.ep k n i off,.p v]=stEp look sz k n i off v (look k):=by
 simp only [zb];cases look k with
 | none=>rfl
 | some ob=>cases ob with
  | row e es xs fz=>cases fz<;>rfl
  | _=>rfl
theorem zrs (v:PV) (off:Nat):zb d look .nilchk [.p (.ip v off)]=some (True,.ofP (.ip v off)):=rfl
theorem zrr (k off:Nat):zb d look .nilchk [.lp k off]=some (True,.ofV (.lp k off)):=rfl
theorem zru (k n i o:Nat):zb d look .nilchk [.ep k n i o]=faEp 0 k n i o (look k):=by
 simp only [zb];generalize look k=q;cases q with
 | none=>rfl
 | some ob=>cases ob<;>rfl
theorem zoB (f:FuncId) (a b:List PV):zb d look .nilchk [.p (.fn (.func f) a b)]=some (True,.ofP (.fn (.func f) a b)):=rfl
theorem zrt (f:FuncId) (a b:List LV):zb d look .nilchk [.fn (.func f) a b]=some (True,.ofV (.fn (.func f) a b)):=rfl
theorem zBG (k k':IntKind) (x y:Int):zb d look (.bin .shr) [.p (.i k x),.p (.i k' y)]=some (0<=y,.ofP (.i k (x.fdiv (2 ^ (min y.toNat k.bits))))):=rfl
theorem zBH (k k':IntKind) (x y:Int):zb d look (.bin .shl) [.p (.i k x),.p (.i k' y)]=some (0<=y,.ofP (.i k (k.wrap (x*2 ^ (min y.toNat k.bits))))):=rfl
theorem zBY (k k':IntKind) (x y:Int):zb d look (.bin .add) [.p (.i k x),.p (.i k' y)]=some (k=k',.ofP (.i k (k.wrap (x+y)))):=rfl
theorem zBE (k k':IntKind) (x y:Int):zb d look (.bin .sub) [.p (.i k x),.p (.i k' y)]=some (k=k',.ofP (.i k (k.wrap (x - y)))):=rfl
theorem zBN (k k':IntKind) (x y:Int):zb d look (.bin .mul) [.p (.i k x),.p (.i k' y)]=some (k=k',.ofP (.i k (k.wrap (x*y)))):=rfl
theorem zBJ (k k':IntKind) (x y:Int):zb d look (.bin .quo) [.p (.i k x),.p (.i k' y)]=some (k=k'/\y≠0,.ofP (.i k (k.wrap (x.tdiv y)))):=rfl
theorem zBI (k k':IntKind) (x y:Int):zb d look (.bin .rem) [.p (.i k x),.p (.i k' y)]=some (k=k'/\y≠0,.ofP (.i k (x.tmod y))):=rfl
theorem zBX (k k':IntKind) (x y:Int):zb d look (.bin .and) [.p (.i k x),.p (.i k' y)]=some (k=k',.ofP (.i k (bits .and k x y))):=rfl
theorem eo_or (k k':IntKind) (x y:Int):zb d look (.bin .or) [.p (.i k x),.p (.i k' y)]=some (k=k',.ofP (.i k (bits .or k x y))):=rfl
theorem zBT (k k':IntKind) (x y:Int):zb d look (.bin .eql) [.p (.i k x),.p (.i k' y)]=some (k=k',.ofP (.b (decide (x=y)))):=rfl
theorem zBL (k k':IntKind) (x y:Int):zb d look (.bin .neq) [.p (.i k x),.p (.i k' y)]=some (k=k',.ofP (.b (!decide (x=y)))):=rfl
theorem zBO (k k':IntKind) (x y:Int):zb d look (.bin .lss) [.p (.i k x),.p (.i k' y)]=some (k=k',.ofP (.b (decide (x < y)))):=rfl
theorem zBP (k k':IntKind) (x y:Int):zb d look (.bin .leq) [.p (.i k x),.p (.i k' y)]=some (k=k',.ofP (.b (decide (x<=y)))):=rfl
theorem zBQ (k k':IntKind) (x y:Int):zb d look (.bin .gtr) [.p (.i k x),.p (.i k' y)]=some (k=k',.ofP (.b (decide (y < x)))):=rfl
theorem zBR (k k':IntKind) (x y:Int):zb d look (.bin .geq) [.p (.i k x),.p (.i k' y)]=some (k=k',.ofP (.b (decide (y<=x)))):=rfl
theorem zyX (x y:ByteArray):zb d look (.bin .add) [.p (.s x),.p (.s y)]=some (x.size+y.size<=maxLen,.ofP (.s (x++y))):=rfl
theorem zyW (x y:ByteArray):zb d look (.bin .eql) [.p (.s x),.p (.s y)]=some (True,.ofP (.b (decide (x=y)))):=rfl
theorem zyR (x y:ByteArray):zb d look (.bin .neq) [.p (.s x),.p (.s y)]=some (True,.ofP (.b (!decide (x=y)))):=rfl
theorem zyS (x y:ByteArray):zb d look (.bin .lss) [.p (.s x),.p (.s y)]=some (True,.ofP (.b (Op.bytesLess x.toList y.toList))):=rfl
theorem zyU (x y:ByteArray):zb d look (.bin .gtr) [.p (.s x),.p (.s y)]=some (True,.ofP (.b (!(Op.bytesLess x.toList y.toList || decide (x=y))))):=rfl
theorem zyT (x y:ByteArray):zb d look (.bin .leq) [.p (.s x),.p (.s y)]=some (True,.ofP (.b (Op.bytesLess x.toList y.toList || decide (x=y)))):=rfl
theorem zyV (x y:ByteArray):zb d look (.bin .geq) [.p (.s x),.p (.s y)]=some (True,.ofP (.b (!Op.bytesLess x.toList y.toList))):=rfl
theorem eo_eq (ks:List Nat) (ag:Bool) (x y:PV):zb d look (.eq false ks ag) [.p x,.p y]=some (eqCellsOk ks x.cells y.cells/\x.isAgg=ag/\y.isAgg=ag,.ofP (.b (eqCells x.cells y.cells))):=rfl
theorem eo_ne (ks:List Nat) (ag:Bool) (x y:PV):zb d look (.eq true ks ag) [.p x,.p y]=some (eqCellsOk ks x.cells y.cells/\x.isAgg=ag/\y.isAgg=ag,.ofP (.b (!eqCells x.cells y.cells))):=rfl
theorem zBK (x:Bool):zb d look .not [.p (.b x)]=some (True,.ofP (.b (!x))):=rfl
theorem zBM (k:IntKind) (x:Int):zb d look .neg [.p (.i k x)]=some (True,.ofP (.i k (k.wrap (0 - x)))):=rfl
theorem zBU (k k':IntKind) (x:Int):zb d look (.cvt k) [.p (.i k' x)]=some (True,.ofP (.i k (k.wrap x))):=rfl
theorem zBV (x:ByteArray):zb d look .cvs [.p (.s x)]=some (True,.ofP (.s x)):=rfl
theorem zy6 (f:Fn) (n:Nat) (ins:List LV):zb d look (.mkfn f n) ins=mfK f (ins.take n) (ins.drop n) (zfF (ins.take n)) (zfF (ins.drop n)):=by
 simp only [zb];cases zfF (ins.take n)<;>cases zfF (ins.drop n)<;>rfl
theorem zy0 (x:ByteArray) (k:IntKind) (h:Int):zb d look (.sliceS false true) [.p (.s x),.p (.i k h)]=some (0<=h/\h<=x.size,.ofP (.s (x.extract 0 h.toNat))):=rfl
theorem zyZ (x:ByteArray) (k:IntKind) (l:Int):zb d look (.sliceS true false) [.p (.s x),.p (.i k l)]=some (0<=l/\l<=x.size,.ofP (.s (x.extract l.toNat x.size))):=rfl
theorem zyY (x:ByteArray) (k k':IntKind) (l h:Int):zb d look (.sliceS true true) [.p (.s x),.p (.i k l),.p (.i k' h)]=some (0<=l/\l<=h/\h<=x.size,.ofP (.s (x.extract l.toNat h.toNat))):=rfl
theorem zy3 (sz s':Nat) (xs:List PV) (k:IntKind) (h:Int):zb d look (.sliceL sz false true) [.p (.sl s' xs),.p (.i k h)]=some (sz=s'/\0<=h/\h<=xs.length,.ofP (.sl sz (xs.take h.toNat))):=rfl
theorem zy2 (sz s':Nat) (xs:List PV) (k:IntKind) (l:Int):zb d look (.sliceL sz true false) [.p (.sl s' xs),.p (.i k l)]=some (sz=s'/\0<=l/\l<=xs.length,.ofP (.sl sz (xs.drop l.toNat))):=rfl
theorem zy1 (sz s':Nat) (xs:List PV) (k k':IntKind) (l h:Int):zb d look (.sliceL sz true true) [.p (.sl s' xs),.p (.i k l),.p (.i k' h)]=some (sz=s'/\0<=l/\l<=h/\h<=xs.length,.ofP (.sl sz ((xs.take h.toNat).drop l.toNat))):=rfl
theorem zoH (off:Nat) (v:PV) (o:Nat):zb d look (.fadr off) [.p (.ip v o)]=some (True,.ofP (.ip v (o+off))):=rfl
theorem zoG (off k o:Nat):zb d look (.fadr off) [.lp k o]=some (True,.ofV (.lp k (o+off))):=rfl
theorem zoI (off k n i o:Nat):zb d look (.fadr off) [.ep k n i o]=faEp off k n i o (look k):=by
 simp only [zb];generalize look k=q;cases q with
 | none=>rfl
 | some ob=>cases ob<;>rfl
theorem zu4 (off sz:Nat) (v:PV):zb d look (.fld off sz true) [.p v]=some (off+sz<=v.cells.length/\(true=false->sz=1)/\v.isAgg=true,.ofP (.agg ((v.cells.drop off).take sz))):=rfl
theorem zu5 (off sz:Nat) (v:PV):zb d look (.fld off sz false) [.p v]=some (off+sz<=v.cells.length/\(false=false->sz=1)/\v.isAgg=true,.ofP ((v.cells[off]?).getD .any)):=rfl
theorem zrv (n sz:Nat) (v:PV) (k:IntKind) (j:Int):zb d look (.idxA n sz true) [.p v,.p (.i k j)]=some (0<=j/\j < n/\v.cells.length=n*sz/\(true=false->sz=1)/\v.isAgg=true,.ofP (.agg ((v.cells.drop (j.toNat*sz)).take sz))):=rfl
theorem zrw (n sz:Nat) (v:PV) (k:IntKind) (j:Int):zb d look (.idxA n sz false) [.p v,.p (.i k j)]=some (0<=j/\j < n/\v.cells.length=n*sz/\(false=false->sz=1)/\v.isAgg=true,.ofP ((v.cells[j.toNat*sz]?).getD .any)):=rfl
theorem zzf (x:ByteArray) (k:IntKind) (j:Int):zb d look .idxS [.p (.s x),.p (.i k j)]=some (0<=j/\j < x.size,.ofP (.i .u8 ((x[j.toNat]?).getD 0).toNat)):=rfl
theorem zlP (sz s':Nat) (xs:List PV) (k:IntKind) (j:Int):zb d look (.iadrS sz) [.p (.sl s' xs),.p (.i k j)]=some (sz=s'/\0<=j/\j < xs.length,.ofP (.ip ((xs[j.toNat]?).getD .any) 0)):=rfl
theorem zki (sz q n:Nat) (k:IntKind) (j:Int):zb d look (.iadrS sz) [.row q n,.p (.i k j)]=iaRow sz q n j (look q):=by
 simp only [zb];cases look q with
 | none=>rfl
 | some ob=>cases ob<;>rfl
theorem zlR (n sz:Nat) (v:PV) (o:Nat) (k:IntKind) (j:Int):zb d look (.iadrA n sz) [.p (.ip v o),.p (.i k j)]=some (0<=j/\j < n,.ofP (.ip v (o+j.toNat*sz))):=rfl
theorem zlQ (n sz q o:Nat) (k:IntKind) (j:Int):zb d look (.iadrA n sz) [.lp q o,.p (.i k j)]=some (0<=j/\j < n,.ofV (.lp q (o+j.toNat*sz))):=rfl
theorem zza (x:ByteArray):zb d look (.len true) [.p (.s x)]=some (True,.ofP (.i .i64 x.size)):=rfl
theorem zzb (k n:Nat):zb d look (.len false) [.row k n]=lenK (zba look (.row k n)):=by
 simp only [zb];generalize zba _ _=q;cases q<;>rfl
theorem zzc (sz:Nat) (xs:List PV):zb d look (.len false) [.p (.sl sz xs)]=some (True,.ofP (.i .i64 xs.length)):=rfl
theorem zze (a0:Option Addr) (n c0:Nat):zb d look (.len false) [.p (.rs a0 n c0)]=some ((n:Int)<=9223372036854775807,.ofP (.i .i64 n)):=rfl
theorem zzg (j:Nat) (vs:List LV):zb d look (.ext j) [.tup vs]=some (j < vs.length,.ofV ((vs[j]?).getD .any)):=rfl
theorem zzd:zb d look (.len false) [.p .nilsl]=some (True,.ofP (.i .i64 (0:Nat))):=rfl
theorem zzj (e sz bytes:Nat) (y:LV):zb d look (.app e sz bytes) [.p .nilsl,y]=apN d e sz bytes (zba look y):=by
 simp only [zb];generalize zba _ _=q;cases q<;>rfl
theorem zzi (e sz bytes k n:Nat) (y:LV):zb d look (.app e sz bytes) [.row k n,y]=apR e sz bytes k n (look k) (zba look y):=by
 simp only [zb];generalize zba look y=q;cases look k with
 | none=>cases q<;>rfl
 | some ob=>cases ob with
  | row e' es xs fz=>cases fz<;>cases q<;>rfl
  | _=>cases q<;>rfl
theorem eo_mx (k k':IntKind) (x y:Int):zb d look .mx [.p (.i k x),.p (.i k' y)]=some (k=k',.ofP (.i k (max x y))):=rfl
theorem eo_mn (k k':IntKind) (x y:Int):zb d look .mn [.p (.i k x),.p (.i k' y)]=some (k=k',.ofP (.i k (min x y))):=rfl
theorem zBS (j:Nat) (vs:List PV):zb d look (.ext j) [.p (.tup vs)]=some (j < vs.length,.ofP ((vs[j]?).getD .any)):=rfl
theorem zu2 (x:ByteArray):zb d look .range [.p (.s x)]=some (True,⟨.it d,some (d,.sit x 0),true,[]⟩):=rfl
theorem zy4 (k:Nat):zb d look .next [.it k]=nxK k (look k):=by
 simp only [zb];generalize look k=q;cases q with
 | none=>rfl
 | some ob=>cases ob<;>rfl
theorem zoC (e sz bytes:Nat) (z:PV) (k1 k2:IntKind) (n c:Int):zb d look (.mkslice e sz bytes z) [.p (.i k1 n),.p (.i k2 c)]=some (0<=n/\(n=c\/(n=0/\0<=c))/\c.toNat*bytes<=140737488355328,⟨.row d n.toNat,some (d,.row e sz (List.replicate n.toNat z) false),true,[]⟩):=rfl
theorem zzh (sz k n:Nat) (y:LV):zb d look (.copy sz) [.row k n,y]=cpR sz k n (look k) (zba look y):=by
 simp only [zb];generalize look k=q;generalize zba look y=r;cases q with
 | none=>cases r<;>rfl
 | some ob=>cases ob with
  | row e es xs fz=>cases fz<;>cases r<;>rfl
  | _=>cases r<;>rfl
theorem zu3:zb d look .mkmap []=some (True,⟨.lm d,some (d,.mp [] false),true,[]⟩):=rfl
theorem zy9 (ks:List Nat) (ag:Bool) (z:PV) (ok:Bool) (m:LV) (key:PV):zb d look (.lkup ks ag z ok) [m,.p key]=lkK ks ag z ok key (zgC look m):=by
 simp only [zb];generalize zgC look m=r;cases r<;>rfl
theorem mo_p (es:List (PV × PV)):zgC look (.p (.mp es))=some (es,[]):=rfl
theorem mo_lm (k:Nat):zgC look (.lm k)=moK k (look k):=by
 simp only [zgC];generalize look k=q;cases q with
 | none=>rfl
 | some ob=>cases ob<;>rfl
theorem zy8 (ks:List Nat) (ag:Bool) (z:PV) (k:Nat) (key:PV):zb d look (.ment ks ag z) [.lm k,.p key]=meK ks ag z k key (look k):=by
 simp only [zb];generalize look k=q;cases q with
 | none=>rfl
 | some ob=>cases ob with
  | mp es fz=>cases fz<;>rfl
  | _=>rfl
theorem zBF (n:Nat) (v:PV) (off:Nat):zb d look (.slA n) [.p (.ip v off)]=some (off=0/\v.cells.length=n/\v.cells.all PV.one=true,.ofP (.sl 1 v.cells)):=rfl
theorem zy7 (k:Nat) (n:Int) (v:PV):zb d look .mest [.lm k,.p (.i .i64 n),.p v]=mtK k n v (look k):=by
 simp only [zb];generalize look k=q;cases q with
 | none=>rfl
 | some ob=>cases ob with
  | mp es fz=>cases fz<;>rfl
  | _=>rfl
theorem zy5 (ks:List Nat) (ag:Bool) (k:Nat) (key v:PV):zb d look (.mset ks ag) [.lm k,.p key,.p v]=msK ks ag k key v (look k):=by
 simp only [zb];generalize look k=q;cases q with
 | none=>rfl
 | some ob=>cases ob with
  | mp es fz=>cases fz<;>rfl
  | _=>rfl
theorem zB0:zba look (.p .nilsl)=some (True,[],0,[]):=rfl
theorem el_sl (sz:Nat) (xs:List PV):zba look (.p (.sl sz xs))=some (True,xs,sz,[]):=rfl
theorem zBZ (k n:Nat):zba look (.row k n)=elRow k n (look k):=by
 simp only [zba];cases look k with
 | none=>rfl
 | some ob=>cases ob<;>rfl
end
theorem zvN:zfF []=some []:=rfl
theorem zsc (v:PV) (r:List LV):zfF (.p v::r)=apC v (zfF r):=by
 simp only [zfF];cases zfF r<;>rfl
def rdK (look:Nat->Option LObj):List LV->List Nat
 | []=>[]
 | q::r=>zK look 5 q++rdK look r
theorem zwn (look:Nat->Option LObj):∀ l:List LV,l.flatMap (zK look 5)=rdK look l
 | []=>rfl
 | q::r=>by rw [xat,zwn look r];rfl
theorem zxN (look:Nat->Option LObj):rdK look []=[]:=rfl
theorem rdK_p (look:Nat->Option LObj) (v:PV) (r:List LV):rdK look (.p v::r)=rdK look r:=rfl
theorem rdK_g (look:Nat->Option LObj) (c:Bool) (q:LV) (r:List LV):rdK look (.g c q::r)=rdK look r:=rfl
theorem zxM (look:Nat->Option LObj) (k n:Nat) (r:List LV):rdK look (.row k n::r)=k::rdK look r:=rfl
theorem zAJ (look:Nat->Option LObj) (k n i o:Nat) (r:List LV):rdK look (.ep k n i o::r)=k::rdK look r:=rfl
theorem zAH (look:Nat->Option LObj) (k:Nat) (r:List LV):rdK look (.it k::r)=k::rdK look r:=rfl
def lpK (look:Nat->Option LObj):Option LObj->List Nat
 | some (.box cs _)=>cs.flatMap (zK look 4)
 | _=>[]
theorem zAF (look:Nat->Option LObj) (k o:Nat) (r:List LV):rdK look (.lp k o::r)=k::(lpK look (look k)++rdK look r):=by
 simp only [rdK,zK,lpK];cases look k with
 | none=>rfl
 | some ob=>cases ob<;>rfl
theorem zAG (look:Nat->Option LObj) (k:Nat) (r:List LV):rdK look (.lm k::r)=k::rdK look r:=rfl
theorem zAI (look:Nat->Option LObj) (f:Fn) (a b r:List LV):rdK look (.fn f a b::r)=a.flatMap (zK look 4)++b.flatMap (zK look 4)++rdK look r:=rfl
theorem zxO (look:Nat->Option LObj) (cs r:List LV):rdK look (.agg cs::r)=cs.flatMap (zK look 4)++rdK look r:=rfl
theorem zxL (look:Nat->Option LObj) (cs r:List LV):rdK look (.tup cs::r)=cs.flatMap (zK look 4)++rdK look r:=rfl
theorem dk_p (look:Nat->Option LObj) (m:Nat) (v:PV):zK look m (.p v)=[]:=by cases m<;>rfl
theorem zB5 (look:Nat->Option LObj) (m:Nat):zK look m .any=[]:=by cases m<;>rfl
theorem zvk (look:Nat->Option LObj) (m:Nat):zK look m .yield=[]:=by cases m<;>rfl
theorem zzk (look:Nat->Option LObj) (k n:Nat):zK look 4 (.row k n)=[k]:=rfl
theorem zB3 (look:Nat->Option LObj) (k:Nat):zK look 4 (.lm k)=[k]:=rfl
theorem zB4 (look:Nat->Option LObj) (k:Nat):zK look 4 (.it k)=[k]:=rfl
theorem zp9 (look:Nat->Option LObj) (r:List LV):rdK look (.yield::r)=rdK look r:=rfl
def rdM:AOp->List Nat->List Nat
 | .mv,_|.pick,_=>[]
 | _,l=>l
theorem zBA (s:St) (d:Option Nat) (op:AOp) (args:List AOpd) (gd:Option (Nat × Bool)) (af:List Nat) (wr:List (Nat × LObj)):zBB s ⟨d,op,args,gd,af⟩ wr=⟨d.toList,rdT ⟨d,op,args,gd,af⟩,d.getD 0::wr.map (·.1),rdM op (rdK s.look (uns (zd s args))),af,false⟩:=by
 cases op<;>simp only [zBB,rdO,zwn,rdM]
theorem zxz {Q:zam} (h:∀ K:St->List Ft->Prop,(∀ s acc,Q .normal s->K s acc)->zF false (zp G.P G.ts false K) l s []):Run G (.ops false l) s Q:=zar (zw (h _ λ_ _ h=>h))
section
variable {look look':Nat->Option LObj} {d:Nat}
theorem zB2 {k:Nat}:k ∈ zK look 5 (.lp k off):=xaA
theorem zrC {k:Nat}:k ∈ zK look 5 (.row k n):=xaA
theorem zvl {k:Nat}:k ∈ zK look 5 (.ep k n i off):=xaA
theorem zgG (h:∀ k ∈ zK look 5 q,look' k=look k):q.known look'=q.known look:=by
 cases q<;>try rfl
 rename_i k n;have:=h k xaA;simp only [LV.known,this]
theorem zhx:∀ {l:List LV},(∀ k ∈ l.flatMap (zK look 4),look' k=look k)->oneL look' l=oneL look l
 | [],_=>rfl
 | q::r,h=>by
  have ih:oneL look' r=oneL look r:=zhx λk hk=>h k (by rw [xat];exact xbc _ hk)
  cases q<;>simp only [oneL,ih]
  rename_i k n;have:=h k (by rw [xat];exact xbi _ xaA)
  rw [this]
theorem zci (h:∀ k ∈ zK look 5 q,look' k=look k):zba look' q=zba look q:=by
 cases q with
 | p v=>cases v<;>rfl
 | row k n=>simp only [zba,h k xaA]
 | _=>rfl
theorem zg1 (h:∀ k ∈ zK look 5 q,look' k=look k):oneL look' q.cells=oneL look q.cells:=by
 cases q with
 | agg cs=>exact zhx λk hk=>h k hk
 | p v=>
  have:∀ l:List PV,oneL look' (l.map .p)=oneL look (l.map .p):=λl=>by
   induction l with
   | nil=>rfl
   | cons x r ih=>simp only [xaj,oneL,ih]
  exact this _
 | row k n=>
  have:=h k xaA;simp only [LV.cells,oneL,this]
 | _=>rfl
theorem zlv (h:∀ k ∈ zK look 5 q,look' k=look k):zgC look' q=zgC look q:=by
 cases q with
 | p v=>cases v<;>rfl
 | lm k=>simp only [zgC,h k xaA]
 | _=>rfl
theorem dk_it {k:Nat}:k ∈ zK look 5 (.it k):=xaA
theorem zzl {k:Nat}:k ∈ zK look 5 (.lm k):=xaA
theorem zeK:∀ {n:Nat} {pl:List (Nat × Nat)} {ps:List LV},(∀ q ∈ ps,∀ k ∈ zK look 5 q,look' k=look k)->fillLOk look' n pl ps=fillLOk look n pl ps
 | _,[],[],_=>rfl
 | _,[],_::_,_=>rfl
 | _,_::_,[],_=>rfl
 | n,(_,_)::pl,p::ps,h=>by
  have ih:fillLOk look' n pl ps=fillLOk look n pl ps:=zeK λq hq=>h q (by simp [hq])
  simp only [fillLOk,ih,zgG (h p (by simp))]
theorem zkf {ins:List LV} (h:∀ k ∈ ins.flatMap (zK look 5),look' k=look k):zb d look' op ins=zb d look op ins:=by
 have hk:∀ q ∈ ins,∀ k ∈ zK look 5 q,look' k=look k:=λq hq k hk=>h k (xaw.2 ⟨q,hq,hk⟩)
 unfold zb
 split<;>first|rfl|skip
 ·rename_i x;rw [zgG (hk x (by simp))]
 ·rw [zeK hk]
 ·rename_i sz ag k off;rw [hk (.lp k off) (by simp) k zB2]
 ·rename_i sz ag k n i off;rw [hk (.ep k n i off) (by simp) k zvl]
 ·rename_i sz k off x;rw [hk (.lp k off) (by simp) k zB2];simp only [zg1 (hk x (by simp))]
 ·rename_i sz k n i off v;have e2:=zg1 (hk (.p v) (by simp))
  simp only [LV.cells] at e2;rw [hk (.ep k n i off) (by simp) k zvl];simp only [e2]
 ·rename_i k n i o;rw [hk (.ep k n i o) (by simp) k zvl]
 ·rename_i off k n i o;rw [hk (.ep k n i o) (by simp) k zvl]
 ·rename_i sz k n q j;rw [hk (.row k n) (by simp) k zrC]
 ·rename_i x _;rw [zci (hk x (by simp))]
 ·rename_i e sz b y;rw [zci (hk y (by simp))]
 ·rename_i e sz b k n y;rw [zci (hk y (by simp)),hk (.row k n) (by simp) k zrC]
 ·rename_i k;rw [hk (.it k) (by simp) k dk_it]
 ·rename_i sz k n y;rw [zci (hk y (by simp)),hk (.row k n) (by simp) k zrC]
 ·rename_i ks ag z ok m key;rw [zlv (hk m (by simp))]
 ·rename_i ks ag k key v;rw [hk (.lm k) (by simp) k zzl]
 ·rename_i ks ag z k key;rw [hk (.lm k) (by simp) k zzl]
 ·rename_i k n v;rw [hk (.lm k) (by simp) k zzl]
end
section
variable {look look':Nat->Option LObj}
theorem zax (ih:∀ q:LV,(∀ k ∈ zK look m q,look' k=look k)->toPV look' m q=toPV look m q):∀ l:List LV,(∀ k ∈ l.flatMap (zK look m),look' k=look k)->toPV.go look' m l=toPV.go look m l
 | [],_=>by simp only [toPV.go]
 | q::r,h=>by
  rw [xat] at h;simp only [toPV.go,ih q λk hk=>h k (xbi _ hk),zax ih r λk hk=>h k (xbc _ hk)]
theorem zb6:∀ (m:Nat) (q:LV),(∀ k ∈ zK look m q,look' k=look k)->toPV look' m q=toPV look m q
 | 0,_,_=>by simp only [toPV]
 | m+1,q,h=>by
  cases q with
  | lp k off=>
   have e:=h k xaA;simp only [toPV,e];cases hk:look k with
   | none=>rfl
   | some ob=>cases ob with
    | box cs fz=>
     have hg:toPV.go look' m cs=toPV.go look m cs:=zax (zb6 m) cs λj hj=>h j (by
      simp only [zK,hk];exact xaH _ hj)
     simp only [hg]
    | _=>rfl
  | row k n=>
   have e:=h k xaA;simp only [toPV,e]
  | fn f a b=>
   have h1:toPV.go look' m a=toPV.go look m a:=zax (zb6 m) a λj hj=>h j (by simp only [zK];exact xbi _ hj)
   have h2:toPV.go look' m b=toPV.go look m b:=zax (zb6 m) b λj hj=>h j (by simp only [zK];exact xbc _ hj)
   simp only [toPV,h1,h2]
  | agg cs=>
   have h1:toPV.go look' m cs=toPV.go look m cs:=zax (zb6 m) cs λj hj=>h j (by simp only [zK];exact hj)
   simp only [toPV,h1]
  | tup cs=>
   have h1:toPV.go look' m cs=toPV.go look m cs:=zax (zb6 m) cs λj hj=>h j (by simp only [zK];exact hj)
   simp only [toPV,h1]
  | lm k=>
   have e:=h k xaA;simp only [toPV,e]
  | _=>simp only [toPV]
theorem zaN (ih:∀ {q:LV} {pre:Prop} {pv:PV} {ks:List Nat},toPV look m q=some (pre,pv,ks)->∀ k ∈ ks,k ∈ zK look m q) :
  ∀ {l:List LV} {pre:Prop} {ps:List PV} {ks:List Nat},toPV.go look m l=some (pre,ps,ks)->∀ k ∈ ks,k ∈ l.flatMap (zK look m)
 | [],pre,ps,ks,h,k,hk=>by
  simp only [toPV.go] at h;injection h with h;injection h with _ h;injection h with _ h;subst h;cases hk
 | q::r,pre,ps,ks,h,k,hk=>by
  simp only [toPV.go] at h;rw [xat]
  split at h
  ·rename_i x y hx hy;injection h with h;injection h with _ h;injection h with _ h;subst h
   rcases xaS.1 hk with hk|hk
   ·exact xbi _ (ih hx k hk)
   ·exact xbc _ (zaN ih hy k hk)
  ·cases h
theorem zcR:∀ (m:Nat) {q:LV} {pre:Prop} {pv:PV} {ks:List Nat},toPV look m q=some (pre,pv,ks)->∀ k ∈ ks,k ∈ zK look m q
 | 0,q,pre,pv,ks,h,k,hk=>by simp [toPV] at h
 | m+1,q,pre,pv,ks,h,k,hk=>by
  cases q with
  | p v=>simp only [toPV] at h;injection h with h;injection h with _ h;injection h with _ h;subst h;cases hk
  | lp j off=>
   simp only [toPV] at h
   split at h
   ·rename_i cs fz hl;obtain ⟨r,hr,h⟩:=xab.1 h;injection h with _ h;injection h with _ h;subst h;simp only [zK,hl]
    rcases xaI.1 hk with rfl|hk
    ·exact xaA
    ·exact xaH _ (zaN (zcR m) hr k hk)
   ·cases h
  | row j n=>
   simp only [toPV] at h
   split at h
   ·injection h with h;injection h with _ h;injection h with _ h;subst h;exact hk
   ·cases h
  | fn f a b=>
   simp only [toPV] at h
   split at h
   ·rename_i r t hr ht;injection h with h;injection h with _ h;injection h with _ h;subst h;simp only [zK]
    rcases xaS.1 hk with hk|hk
    ·exact xbi _ (zaN (zcR m) hr k hk)
    ·exact xbc _ (zaN (zcR m) ht k hk)
   ·cases h
  | agg cs=>
   simp only [toPV] at h;obtain ⟨r,hr,h⟩:=xab.1 h;injection h with _ h;injection h with _ h;subst h;simp only [zK];exact zaN (zcR m) hr k hk
  | tup cs=>
   simp only [toPV] at h;obtain ⟨r,hr,h⟩:=xab.1 h;injection h with _ h;injection h with _ h;subst h;simp only [zK];exact zaN (zcR m) hr k hk
  | lm j=>
   simp only [toPV] at h
   split at h
   ·injection h with h;injection h with _ h;injection h with _ h;subst h;exact hk
   ·cases h
  | _=>simp [toPV] at h
theorem zdK:∀ (m:Nat) (q:LV),∀ k ∈ zK look m q,k ∈ zK look (m+1) q
 | 0,_,k,hk=>by cases hk
 | m+1,q,k,hk=>by
  have key:∀ l:List LV,k ∈ l.flatMap (zK look m)->k ∈ l.flatMap (zK look (m+1)):=λl hl=>by
   obtain ⟨x,hx,h⟩:=xaw.1 hl;exact xaw.2 ⟨x,hx,zdK m x k h⟩
  cases q with
  | lp j off=>
   rw [zK] at hk ⊢
   rcases xaI.1 hk with rfl|hk
   ·exact xaA
   ·refine xaH _ ?_
    split at hk
    ·exact key _ hk
    ·cases hk
  | fn f a b=>
   rw [zK] at hk ⊢
   rcases xaS.1 hk with hk|hk
   ·exact xbi _ (key _ hk)
   ·exact xbc _ (key _ hk)
  | agg cs=>rw [zK] at hk ⊢;exact key _ hk
  | tup cs=>rw [zK] at hk ⊢;exact key _ hk
  | _=>exact hk
theorem zfe:∀ (ks:List Nat),(∀ k ∈ ks,look' k=look k)->frzs look' ks=frzs look ks
 | [],_=>rfl
 | k::r,h=>by simp only [frzs,h k (by simp),zfe r λj hj=>h j (by simp [hj])]
end
theorem zlo {o:RO} {v:LV} {wr:List (Nat × LObj)} (hs:zbW P s o v wr) (ht:∀ t ∈ rdT o,s'.get t=s.get t) (ho:∀ k ∈ rdO s o,s'.look k=s.look k) (hd:s'.look (o.dst.getD 0)=s.look (o.dst.getD 0)) (hw:∀ k ∈ wr.map (·.1),s'.look k=s.look k):zbW P s' o v wr:=by
 have hg:gOf s' o.guard=gOf s o.guard:=by
  cases hq:o.guard with
  | none=>rfl
  | some x=>
   have:=ht x.1 (by simp [rdT,gTmp,hq])
   simp only [gOf,this]
 have he:∀ x ∈ o.args,x.ev s'=x.ev s:=λx hx=>by
  cases x with
  | t n=>exact ht n (xbc _ (xaw.2 ⟨_,hx,by simp [AOpd.tmps]⟩))
  | c v=>rfl
 have hr:zd s' o.args=zd s o.args:=List.map_congr_left he;have hlook:o.op≠.mv->o.op≠.pick->∀ k ∈ (uns (zd s o.args)).flatMap (zK s.look 5),s'.look k=s.look k:=λh1 h2 k hk=>ho k (by
  unfold rdO
  split
  ·exact absurd ‹_› h1
  ·exact absurd ‹_› h2
  ·exact hk)
 have hpv:o.op≠.mv->o.op≠.pick->toPVs s'.look (uns (zd s o.args))=toPVs s.look (uns (zd s o.args)):=λh1 h2=>
  zax (zb6 4) _ λk hk=>hlook h1 h2 k (by
   obtain ⟨x,hx,h⟩:=xaw.1 hk;exact xaw.2 ⟨x,hx,zdK 4 x k h⟩)
 have hlent:∀ {m:Nat->Nat} {obj obj':List (Nat × LObj)},(∀ k o,zm obj k=some o->∃ o',zm obj' k=some o'/\o.Follows o')->(∀ k ∈ (zdb m obj').map (·.1),s'.look k=s.look k)->zsy s m obj obj'->zsy s' m obj obj':=fun {m obj obj'} hf hw h=>by
  have hin:∀ k o,zm obj' k=some o->s'.look (m k)=s.look (m k):=λk o hk=>hw _ (by
   rw [zdb,List.map_map];exact xaN.2 ⟨(k,o),zcY hk,rfl⟩)
  exact ⟨λk o hk=>by obtain ⟨o',h1,_⟩:=hf k o hk;rw [hin k o' h1];exact h.old k o hk,λk o hk h0=>by rw [hin k o hk];exact h.new k o hk h0,h.nd⟩
 cases hs with
 | @callS f m args obj obj' r h1 h2 h3 h4 h5 h6=>exact .callS h1 (hg.trans h2) (by rw [hr];exact h3) (by rw [hr];exact h4) h5 (hlent h5.2.2.1 hw h6)
 | @callSV f m fs cs vs args obj obj' r h1 h2 h3 h3' h4 h5 h6=>exact .callSV h1 (hg.trans h2) (by rw [hr];exact h3) h3' (by rw [hr];exact h4) h5 (hlent h5.2.2.1 hw h6)
 | @mv x c h1 h2 h3=>
  rw [<-he x (by rw [h2];simp)]
  exact .mv h1 h2 (hg.trans h3)
 | @pick x y z c pre v h1 h2 h3 h4 h5=>
  refine .pick h1 h2 (hg.trans h3) (pre:=pre) ?_ ?_
  ·rw [he x (by rw [h2];simp),he y (by rw [h2];simp),he z (by rw [h2];simp)];exact h4
  ·rw [he x (by rw [h2];simp)];exact h5
 | @ev c pre eff h1 h2 h3 h4 h5=>
  have hn1:o.op≠.mv:=λe=>by rw [e] at h2;simp [zb] at h2
  have hn2:o.op≠.pick:=λe=>by rw [e] at h2;simp [zb] at h2
  refine .ev (pre:=pre) (hg.trans h1) ?_ (by rw [hr];exact h3) h4 (λe=>by rw [hd];exact h5 e)
  rw [hr,zkf (hlook hn1 hn2)];exact h2
 | @callA c f pre vs ks r h1 h2 h3 h4 h5=>
  have hn1:o.op≠.mv:=by rw [h1];exact λe=>by cases e
  have hn2:o.op≠.pick:=by rw [h1];exact λe=>by cases e
  refine .callA (pre:=pre) (vs:=vs) (ks:=ks) h1 (hg.trans h2) ?_ (by rw [hr];exact h4) h5
  rw [hr,hpv hn1 hn2];exact h3
 | @callB f pre vs ks r h1 h2 h3 h4 h5 h6=>
  have hn1:o.op≠.mv:=by rw [h1];exact λe=>by cases e
  have hn2:o.op≠.pick:=by rw [h1];exact λe=>by cases e
  have hks:frzs s'.look ks=frzs s.look ks:=zfe ks λk hk=>hlook hn1 hn2 k (by
   have:=zaN (λhq=>zcR 4 hq) h3 k hk
   obtain ⟨x,hx,h⟩:=xaw.1 this;exact xaw.2 ⟨x,hx,zdK 4 x k h⟩)
  rw [<-hks];refine .callB (pre:=pre) (vs:=vs) h1 (hg.trans h2) ?_ (by rw [hr];exact h4) h5 h6
  rw [hr,hpv hn1 hn2];exact h3
 | @callV c f pre fs cs vs ks r h1 h2 h3 h4 h5=>
  have hn1:o.op≠.mv:=by rw [h1];exact λe=>by cases e
  have hn2:o.op≠.pick:=by rw [h1];exact λe=>by cases e
  refine .callV (pre:=pre) (vs:=vs) (ks:=ks) (fs:=fs) (cs:=cs) h1 (hg.trans h2) ?_ (by rw [hr];exact h4) h5
  rw [hr,hpv hn1 hn2];exact h3
 | @callVB f pre fs cs vs ks r h1 h2 h3 h4 h5 h6=>
  have hn1:o.op≠.mv:=by rw [h1];exact λe=>by cases e
  have hn2:o.op≠.pick:=by rw [h1];exact λe=>by cases e
  have hks:frzs s'.look ks=frzs s.look ks:=zfe ks λk hk=>hlook hn1 hn2 k (by
   have:=zaN (λhq=>zcR 4 hq) h3 k hk
   obtain ⟨x,hx,h⟩:=xaw.1 this;exact xaw.2 ⟨x,hx,zdK 4 x k h⟩)
  rw [<-hks];refine .callVB (pre:=pre) (vs:=vs) (fs:=fs) (cs:=cs) h1 (hg.trans h2) ?_ (by rw [hr];exact h4) h5 h6
  rw [hr,hpv hn1 hn2];exact h3
 | callN h2=>exact .callN (hg.trans h2)
 | @callH f k e sz c0 pre vs0 vs xs ks a0 r h1 h2 h3 h4 h5 h6 h7 h8 h9=>
  have hn1:o.op≠.mv:=by rw [h1];exact λe=>by cases e
  have hn2:o.op≠.pick:=by rw [h1];exact λe=>by cases e
  exact .callH (pre:=pre) (vs0:=vs0) (vs:=vs) (ks:=ks) h1 h2 (by rw [hr,hpv hn1 hn2];exact h3) (by rw [hr];exact h4) h5 (by rw [hw k (by simp)];exact h6) h7 h8 h9
 | @appH e sz by_ k c0 sz' x y a0 xs ys rd pre h1 h2 h3 h4 h5 h6 h7 h8 h9 h10 h11=>
  have hn1:o.op≠.mv:=by rw [h1];exact λe=>by cases e
  have hn2:o.op≠.pick:=by rw [h1];exact λe=>by cases e
  refine .appH (pre:=pre) (rd:=rd) (sz':=sz') h1 h2 h3 (by rw [hr];exact h4) (by rw [he x (by rw [h2];simp)];exact h5) (by rw [hw k (by simp)];exact h6) ?_ h8 h9 h10 h11
  rw [he y (by rw [h2];simp),zci λj hj=>hlook hn1 hn2 j ?_]
  ·exact h7
  ·rw [h2];simp only [zd,uns,xaj,xaF,xat,xbH,xar];exact xbc _ hj
structure Rec where
 o:RO
 v:LV
 wr:List (Nat × LObj)
 ro:List Nat
variable {rs:List Rec} {y:Rec}
def zh2:List (Nat × LObj)->Nat->Option LObj
 | [],_=>none
 | (j,o)::r,k=>match zh2 r k with
  | some x=>some x
  | none=>if k=j then some o else none
def gW (x:Rec) (k:Nat):Option LV:=if x.o.dst=some k then some x.v else none
def oW (x:Rec) (k:Nat):Option (Option LObj):=(zh2 x.wr k).map some
theorem zeD:∀ (wr:List (Nat × LObj)) (s:St) (k:Nat),(s.wrs wr).look k=((zh2 wr k).map some).getD (s.look k)
 | [],_,_=>rfl
 | (j,o)::r,s,k=>by
  rw [St.wrs,zeD r];simp only [zh2];cases h:zh2 r k with
  | some x=>rfl
  | none=>
   simp only [Option.map_none,Option.getD_none,St.look,St.wr,zcF,upd]
   split<;>rfl
theorem zjp:∀ {wr:List (Nat × LObj)} {k:Nat},(zh2 wr k).isSome=true->k ∈ wr.map (·.1)
 | [],k,h=>by simp [zh2] at h
 | (j,o)::r,k,h=>by
  simp only [zh2] at h;cases hr:zh2 r k with
  | some x=>exact xaH _ (zjp (by rw [hr];rfl))
  | none=>
   simp only [hr] at h
   by_cases e:k=j
   ·subst e;exact xaA
   ·rw [if_neg e] at h;cases h
inductive Ch (P:Program):List RO->St->List Rec->St->Prop
 | nil (s:St):Ch P [] s [] s
 | cons {o:RO} {r:List RO} {s s':St} {v:LV} {wr:List (Nat × LObj)} {rs:List Rec}:zbW P s o v wr->Ch P r ((s.wrs wr).set o.dst v) rs s'->Ch P (o::r) s (⟨o,v,wr,rdO s o⟩::rs) s'
def ov {β:Type} (W:Rec->Nat->Option β):List Rec->Nat->(Nat->Bool)->(Nat->β)->Nat->β
 | [],_,_,f,k=>f k
 | x::xs,n,S,f,k=>ov W xs (n+1) S (λk=>if S n then (W x k).getD (f k) else f k) k
theorem zda {β:Type} {W:Rec->Nat->Option β} {T:Nat->Bool} {k:Nat}:∀ {rs:List Rec} {n:Nat} {f f':Nat->β},(∀ j x,rs[j]?=some x->(W x k).isSome=true->S (n+j)=T (n+j))->f k=f' k->ov W rs n S f k=ov W rs n T f' k
 | [],n,f,f',_,hf=>hf
 | x::xs,n,f,f',h,hf=>by
  simp only [ov];refine zda (λj y hy hw=>?_) ?_
  ·have:=h (j+1) y (by simpa using hy) hw
   rw [show n+1+j=n+(j+1) by omega];exact this
  ·cases hw:W x k with
   | none=>simp [hf]
   | some b=>
    have:=h 0 x rfl (by rw [hw];rfl)
    simp only [xbt] at this;simp only [this,hf]
theorem zd6 {β:Type} {W:Rec->Nat->Option β} {k:Nat}:∀ {rs:List Rec} {n:Nat} {f:Nat->β},(∀ j,n<=j->S j=false)->ov W rs n S f k=f k
 | [],n,f,_=>rfl
 | x::xs,n,f,h=>by
  simp only [ov];rw [zd6 (λj hj=>h j (by omega))]
  simp [h n (xap _)]
theorem ziU (s:St) (x:Rec) (k:Nat):((s.wrs x.wr).set x.o.dst x.v).get k=(gW x k).getD (s.get k):=by
 rw [zlH,zcA];simp only [gW];cases hd:x.o.dst with
 | none=>simp
 | some d=>
  simp only [upd,xaK]
  by_cases h:k=d
  ·subst h;simp
  ·rw [if_neg h,if_neg (λe=>h e.symm)];rfl
theorem zgD (s:St) (x:Rec) (k:Nat):((s.wrs x.wr).set x.o.dst x.v).look k=(oW x k).getD (s.look k):=by
 rw [ziz,zeD];rfl
theorem zCm (h:Ch P l s rs s'):∀ (n i:Nat) (x:Rec),rs[i]?=some x->∃ si:St,l[i]?=some x.o/\zbW P si x.o x.v x.wr/\x.ro=rdO si x.o /\
  (∀ k,si.get k=ov gW rs n (λj=>decide (j < n+i)) s.get k)/\(∀ k,si.look k=ov oW rs n (λj=>decide (j < n+i)) s.look k):=by
 induction h with
 | nil s=>intro n i x hx;simp at hx
 | @cons o r s s' v wr rs hs hch ih=>
  intro n i x hx;cases i with
  | zero=>
   simp at hx;subst hx;exact ⟨s,rfl,hs,rfl,λk=>(zd6 (λj hj=>by simp;omega)).symm,λk=>(zd6 (λj hj=>by simp;omega)).symm⟩
  | succ i=>
   obtain ⟨si,h1,h2,h3,h4,h5⟩:=ih (n+1) i x (by simpa using hx)
   refine ⟨si,by simpa using h1,h2,h3,λk=>?_,λk=>?_⟩
   ·rw [h4 k];simp only [ov];refine zda (λj y hy hw=>by simp only [decide_eq_decide];omega) ?_
    rw [ziU s ⟨o,v,wr,rdO s o⟩ k];simp
   ·rw [h5 k];simp only [ov];refine zda (λj y hy hw=>by simp only [decide_eq_decide];omega) ?_
    rw [zgD s ⟨o,v,wr,rdO s o⟩ k];simp
theorem zCl (h:Ch P l s rs s'):∀ (n:Nat),rs.length=l.length/\s'.tr=s.tr/\s'.stop=s.stop/\(∀ k,s'.get k=ov gW rs n (λ_=>true) s.get k)/\(∀ k,s'.look k=ov oW rs n (λ_=>true) s.look k):=by
 induction h with
 | nil s=>intro n;exact ⟨rfl,rfl,rfl,λ_=>rfl,λ_=>rfl⟩
 | @cons o r s s' v wr rs hs hch ih=>
  intro n;obtain ⟨h0,h1,h2,h4,h5⟩:=ih (n+1);refine ⟨by simp [h0],by rw [h1,(zV _ _ _).1,(za8 _ _).1],by rw [h2,(zV _ _ _).2,(za8 _ _).2],λk=>?_,λk=>?_⟩
  ·rw [h4 k];simp only [ov];refine zda (λj y hy hw=>rfl) ?_
   rw [ziU s ⟨o,v,wr,rdO s o⟩ k];simp
  ·rw [h5 k];simp only [ov];refine zda (λj y hy hw=>rfl) ?_
   rw [zgD s ⟨o,v,wr,rdO s o⟩ k];simp
def Rec.wT (x:Rec):List Nat:=x.o.dst.toList
def Rec.rT (x:Rec):List Nat:=rdT x.o
def Rec.wO (x:Rec):List Nat:=x.o.dst.getD 0::x.wr.map (·.1)
def zeC (l m:List Nat):Bool:=l.any λa=>m.contains a
def cf (x y:Rec):Bool:=zeC x.wT y.rT || zeC x.wT y.wT || zeC x.rT y.wT || zeC x.wO y.ro || zeC x.wO y.wO || zeC x.ro y.wO
def dep (b:Nat) (rs:List Rec):Nat->Nat->Nat->Bool
 | 0,_,_=>false
 | f+1,i,j=>match rs[j]? with
  | some x=>x.o.after.contains (b+i) || x.o.after.any λm=>decide (b<=m) && dep b rs f i (m - b)
  | none=>false
def zgT (b:Nat) (rs:List Rec):Bool:=
 (List.range rs.length).all λj=>match rs[j]? with
  | some y=>(y.o.after.all λe=>decide (e < b+j)) && (List.range j).all λi=>match rs[i]? with
   | some x=>!cf x y || dep b rs 3 i j
   | none=>true
  | none=>true
theorem zcq {l m:List Nat} {a:Nat} (h1:a ∈ l) (h2:a ∈ m):zeC l m=true:=by
 simp only [zeC,xaV];exact ⟨a,h1,by simpa using h2⟩
theorem zgV (hcl:∀ j x,rs[j]?=some x->S (b+j)=true->∀ e ∈ x.o.after,S e=true):∀ (f i j:Nat) (x:Rec),rs[j]?=some x->(∀ e ∈ x.o.after,S e=true)->dep b rs f i j=true->S (b+i)=true
 | 0,_,_,_,_,_,h=>by simp [dep] at h
 | f+1,i,j,x,hx,hs,h=>by
  simp only [dep,hx,xbg,xaV,xau,decide_eq_true_eq] at h
  rcases h with h|⟨m,hm,hbm,h⟩
  ·exact hs (b+i) (by simpa using h)
  ·cases hy:rs[m - b]? with
   | none=>
    cases f with
    | zero=>simp [dep] at h
    | succ f=>simp [dep,hy] at h
   | some y=>exact zgV hcl f i (m - b) y hy (hcl (m - b) y hy (by rw [show b+(m - b)=m by omega];exact hs m hm)) h
theorem zrA (h:zgT b rs=true) (hy:rs[j]?=some y):∀ e ∈ y.o.after,e < b+j:=by
 have hj:j < rs.length:=(xaa.1 hy).1;simp only [zgT,xaO,xaG] at h;have:=h j hj;rw [hy] at this;simp only [xau,xaO,decide_eq_true_eq] at this;exact this.1
theorem zrB (h:zgT b rs=true) {x:Rec} (hij:i < j) (hx:rs[i]?=some x) (hy:rs[j]?=some y) (hc:cf x y=true):dep b rs 3 i j=true:=by
 have hj:j < rs.length:=(xaa.1 hy).1;simp only [zgT,xaO,xaG] at h;have:=h j hj;rw [hy] at this;simp only [xau,xaO,xaG] at this;have:=this.2 i hij;rw [hx] at this;simpa [hc] using this
theorem zbo:i ∈ Region.ready .any ops listed↔∃ oper,ops[i]?=some oper/\listed.getD i true=false/\∀ e ∈ oper.after.toList,Region.binds .any e=true->listed.getD e.on false=true:=by
 simp only [Region.ready,xbs,xaG,xau,xbv]
 constructor
 ·rintro ⟨hi,h1,h2⟩;have hs:=xai hi;refine ⟨_,hs,h1,λe he hb=>?_⟩
  rw [hs] at h2;simp only [xcn,xa7,Array.all_eq_true] at h2;obtain ⟨n,hn,hne⟩:=List.getElem_of_mem he;have:=h2 n (by simpa using hn)
  simp only [Array.getElem_toList] at hne;rw [hne] at this;simpa [hb] using this
 ·rintro ⟨oper,hs,h1,h2⟩;refine ⟨(xaR.1 hs).1,h1,?_⟩;rw [hs];simp only [xcn,xa7,Array.all_eq_true];intro n hn;cases hb:Region.binds .any oper.after[n] with
  | false=>simp
  | true=>simpa using h2 _ (by simp) hb
theorem zdO {oper:Oper} {o:RO} (hr:ROk P N ops oper o) {listed:Nat->Bool}:(∀ e ∈ oper.after.toList,Region.binds .any e=true->listed e.on=true)↔∀ e ∈ o.after,listed e=true:=by
 rw [hr.ha]
 constructor
 ·intro h e he;obtain ⟨x,hx,hxe⟩:=List.mem_filterMap.1 he
  split at hxe
  ·rename_i hb;injection hxe with hxe;subst hxe;exact h x hx hb
  ·cases hxe
 ·intro h e he hb;exact h e.on (List.mem_filterMap.2 ⟨e,he,by rw [if_pos hb]⟩)
theorem zcj:∀ {os:List Oper} {l:List RO},zbt P N ops os=some l->os.length=l.length/\∀ (i:Nat) (x:Oper),os[i]?=some x->∃ o,l[i]?=some o/\zcN P N ops x=some o
 | [],l,h=>by simp [zbt] at h;subst h;exact ⟨rfl,λi x hx=>by simp at hx⟩
 | y::os,l,h=>by
  simp only [zbt] at h
  split at h
  ·rename_i o r ho hr;injection h with h;subst h;obtain ⟨h1,h2⟩:=zcj hr;refine ⟨by simp [h1],λi x hx=>?_⟩
   cases i with
   | zero=>simp at hx;subst hx;exact ⟨o,rfl,ho⟩
   | succ i=>obtain ⟨o',g1,g2⟩:=h2 i x (by simpa using hx);exact ⟨o',by simpa using g1,g2⟩
  ·cases h
def ziG (listed:Array Bool) (n:Nat):Nat:=(List.range n).countP λi=>!listed.getD i false
theorem ziF (hi:i < n) (hs:listed.size=n) (hf:listed.getD i false=false):ziG (listed.setIfInBounds i true) n+1=ziG listed n:=by
 unfold ziG;have key:∀ m,m<=n->(List.range m).countP (λj=>!(listed.setIfInBounds i true).getD j false)+(if i < m then 1 else 0)=(List.range m).countP (λj=>!listed.getD j false):=by
  intro m
  induction m with
  | zero=>intro _;simp
  | succ m ih=>
   intro hm;have ih:=ih (by omega)
   rw [xbd,List.countP_append,List.countP_append];simp only [List.countP_singleton]
   by_cases e:i=m
   ·subst e;have h1:(listed.setIfInBounds i true).getD i false=true:=by
     rw [xag,xb1 (by omega)];rfl
    rw [h1,hf];simp at ih ⊢
    omega
   ·have h1:(listed.setIfInBounds i true).getD m false=listed.getD m false:=by
     rw [xag,xag,xbY e]
    rw [h1];have:(if i < m+1 then 1 else 0)=(if i < m then 1 else 0):=by split<;>split<;>omega
    omega
 have:=key n (xap _);rw [if_pos hi] at this;exact this
theorem zgF (h:ziG listed n=0):∀ i,i < n->listed.getD i false=true:=by
 intro i hi;unfold ziG at h;rw [List.countP_eq_zero] at h;simpa using h i (xaG.2 hi)
theorem zqx {β:Type} {W:Rec->Nat->Option β} {k:Nat}:∀ {rs:List Rec} {n i:Nat} {x:Rec} {f:Nat->β},rs[i]?=some x->ov W rs n (λj=>decide (j < n+(i+1))) f k=(W x k).getD (ov W rs n (λj=>decide (j < n+i)) f k)
 | [],n,i,x,f,h=>by simp at h
 | y::rs,n,0,x,f,h=>by
  simp at h;subst h;simp only [ov];rw [zd6 (λj hj=>by simp;omega),zd6 (λj hj=>by simp;omega)]
  simp
 | y::rs,n,i+1,x,f,h=>by
  have:=zqx (W:=W) (k:=k) (rs:=rs) (n:=n+1) (i:=i) (x:=x) (f:=λk=>(W y k).getD (f k)) (by simpa using h)
  simp only [ov];have e1:∀ m,ov W rs (n+1) (λj=>decide (j < n+(m+1))) (λk=>if decide (n < n+(m+1))=true then (W y k).getD (f k) else f k) k=ov W rs (n+1) (λj=>decide (j < n+1+m)) (λk=>(W y k).getD (f k)) k:=λm=>
   zda (λj z hz hw=>by simp only [decide_eq_decide];omega) (by simp)
  rw [e1 (i+1),e1 i];exact this
theorem zf1 (hi:i < listed.size):(listed.setIfInBounds i true).getD j false=if j=i then true else listed.getD j false:=by
 rw [xag,xag]
 by_cases e:j=i
 ·subst e;rw [xb1 hi,if_pos rfl];rfl
 ·rw [xbY (Ne.symm e),if_neg e]
theorem cf_T {x:Rec} {k:Nat} (h1:k ∈ x.wT) (h2:k ∈ y.rT\/k ∈ y.wT):cf x y=true/\cf y x=true:=by
 rcases h2 with h2|h2
 ·exact ⟨by simp [cf,zcq h1 h2],by simp [cf,zcq h2 h1]⟩
 ·exact ⟨by simp [cf,zcq h1 h2],by simp [cf,zcq h2 h1]⟩
theorem cf_O {x:Rec} {k:Nat} (h1:k ∈ x.wO) (h2:k ∈ y.ro\/k ∈ y.wO):cf x y=true/\cf y x=true:=by
 rcases h2 with h2|h2
 ·exact ⟨by simp [cf,zcq h1 h2],by simp [cf,zcq h2 h1]⟩
 ·exact ⟨by simp [cf,zcq h1 h2],by simp [cf,zcq h2 h1]⟩
theorem zwA {x:Rec} {k:Nat} (h:(gW x k).isSome=true):k ∈ x.wT:=by
 simp only [gW] at h
 split at h
 ·rename_i e;simp [Rec.wT,e]
 ·cases h
theorem zwv {x:Rec} {k:Nat} (h:(oW x k).isSome=true):k ∈ x.wO:=by
 simp only [oW,Option.isSome_map] at h;exact xaH _ (zjp h)
theorem zxb {b ii:Nat} {x:Rec} {f:Rec->Rec->Bool} (hd:∀ i j x y,i < j->rs[i]?=some x->rs[j]?=some y->f x y=true->dep b rs 3 i j=true) (hcR:∀ j y,rs[j]?=some y->S (b+j)=true->∀ e ∈ y.o.after,S e=true)
  (hx:rs[ii]?=some x) (haf:∀ e ∈ x.o.after,S e=true) (hun:S (b+ii)=false) {j:Nat} {y:Rec} (hy:rs[j]?=some y) (hc:f y x=true/\f x y=true):S (b+j)=decide (j < ii):=by
 rcases Nat.lt_trichotomy j ii with h|rfl|h
 ·rw [zgV hcR 3 j ii x hx haf (hd _ _ _ _ h hy hx hc.1)];simp [h]
 ·rw [hun];simp
 ·cases hq:S (b+j) with
  | false=>simp [Nat.le_of_lt h]
  | true=>
   rw [zgV hcR 3 ii j y hy (hcR j y hy hq) (hd _ _ _ _ h hx hy hc.2)] at hun;cases hun
theorem zpH {β:Type} {W:Rec->Nat->Option β} {k ii:Nat} {x:Rec} {S':Nat->Bool} {f g:Nat->β} (hx:rs[ii]?=some x) (hS:∀ j,S' j=if j=b+ii then true else S j) (hg:g k=ov W rs b S f k)
  (hW:(W x k).isSome=true->∀ j y,rs[j]?=some y->(W y k).isSome=true->S (b+j)=decide (j < ii)):(W x k).getD (g k)=ov W rs b S' f k:=by
 cases hw:W x k with
 | none=>
  simp only [Option.getD_none];rw [hg];refine zda (λj y hy hwy=>?_) rfl
  rw [hS]
  by_cases ej:j=ii
  ·subst ej;rw [hx] at hy;injection hy with hy;subst hy;rw [hw] at hwy;cases hwy
  ·rw [if_neg (by omega)]
 | some v=>
  have:=zqx (W:=W) (k:=k) (n:=b) (f:=f) hx;rw [hw] at this;simp only [xa7] at this ⊢;rw [<-this];refine zda (λj y hy hwy=>?_) rfl
  rw [hS]
  by_cases ej:j=ii
  ·subst ej;simp
  ·rw [if_neg (by omega),hW (by rw [hw];rfl) j y hy hwy];simp only [decide_eq_decide];omega
theorem zm9:∀ {n:Nat},(¬∀ i,i < n->S i=true)->∃ i,i < n/\S i=false/\∀ j,j < i->S j=true
 | 0,h=>absurd (λi hi=>by omega) h
 | n+1,h=>by
  by_cases hy:∀ i,i < n->S i=true
  ·refine ⟨n,Nat.lt_succ_self n,?_,hy⟩;cases hq:S n with
   | false=>rfl
   | true=>exact absurd (λi hi=>if e:i=n then e ▸ hq else hy i (by omega)) h
  ·obtain ⟨i,e1,e2,e3⟩:=zm9 hy;exact ⟨i,by omega,e2,e3⟩
theorem zvi {ro:Option Nat} (hcomp:zbt P N ops ops.toList=some L) (hLl:b+n<=L.length) (hlt:∀ i o,b<=i->i < b+n->L[i]?=some o->∀ e ∈ o.after,e < i)
  (hbar:∀ (S:Nat->Bool),(∀ j o,L[j]?=some o->S j=true->∀ e ∈ o.after,S e=true)->(∀ j,j < b->S j=true)->∀ i o,b+n<=i->L[i]?=some o->(∀ e ∈ o.after,S e=true)->∀ j,j < b+n->S j=true)
  {QX:Exit->Act->World->Prop} {I:(Nat->Bool)->Act->World->Prop}
  (hQ:∀ (fuel:Nat) (listed:Array Bool) (a:Act) (w:World),listed.size=ops.size->ziG listed ops.size<=fuel->(∀ j,listed.getD j false=decide (j < b+n))->I (λj=>listed.getD j false) a w->wpAnyIn (za4 ro) 0 P .any ops QX fuel listed a w)
  (hI:∀ (S S':Nat->Bool) (a:Act) (w:World) (oper:Oper) (o:RO) (ii:Nat),ii < n->L[b+ii]?=some o->zcN P N ops oper=some o->S (b+ii)=false->(∀ e ∈ o.after,S e=true)->(∀ j o,L[j]?=some o->S j=true->∀ e ∈ o.after,S e=true)->(∀ j,S' j=if j=b+ii then true else S j)->I S a w ->
   ∀ K:Act->World->Prop,(∀ a' w',I S' a' w'->K a' w')->if Region.wanted oper (yielded ops a.tmps) then oper.wpIn (za4 ro) 0 P a w K QX else (∀ f,oper.about P w a.eval=some f->(za4 ro).fn f)/\K (a.put oper.dst undef) w) :
  ∀ (fuel:Nat) (listed:Array Bool) (a:Act) (w:World),listed.size=ops.size->ziG listed ops.size<=fuel->(∀ j,j < b->listed.getD j false=true)->(∀ j,b+n<=j->listed.getD j false=false) ->
  (∀ j o,L[j]?=some o->listed.getD j false=true->∀ e ∈ o.after,listed.getD e false=true)->I (λj=>listed.getD j false) a w->wpAnyIn (za4 ro) 0 P .any ops QX fuel listed a w:=by
 obtain ⟨hcl,hcg⟩:=zcj hcomp;have hn:L.length=ops.size:=by rw [<-hcl];simp
 have hat:∀ (i:Nat) (oper:Oper),ops[i]?=some oper->∃ o,L[i]?=some o/\zcN P N ops oper=some o:=λi oper hi=>hcg i oper (by simpa using hi)
 have hfin:∀ (fuel:Nat) (listed:Array Bool) (a:Act) (w:World),listed.size=ops.size->ziG listed ops.size<=fuel->(∀ j,b+n<=j->listed.getD j false=false)->(∀ i,i < b+n->listed.getD i false=true)->I (λj=>listed.getD j false) a w->wpAnyIn (za4 ro) 0 P .any ops QX fuel listed a w:=λfuel listed a w hs hl h1 hall hi=>
  hQ fuel listed a w hs hl (λj=>by
   by_cases e:j < b+n
   ·rw [hall j e];simp [e]
   ·rw [h1 j (by omega)];simp [e]) hi
 intro fuel
 induction fuel with
 | zero=>
  intro listed a w hs hl h0 h1 hc hi;exact hfin 0 listed a w hs hl h1 (λi hi=>zgF (Nat.le_zero.1 hl) i (by omega)) hi
 | succ fuel ih=>
  intro listed a w hs hl h0 h1 hc hi
  by_cases hall2:∀ i,i < b+n->listed.getD i false=true
  ·exact hfin (fuel+1) listed a w hs hl h1 hall2 hi
  have hge:∀ i,i < ops.size->(listed.getD i true=listed.getD i false):=λi hi=>by
   rw [xag,xag,xai (by omega)];rfl
  obtain ⟨i0,hi0,hf0,hb0⟩:=zm9 (S:=λj=>listed.getD j false) hall2
  refine ⟨λhr=>?_,λi hi2=>?_⟩
  ·exfalso
   have hbi:b<=i0:=Nat.not_lt.1 λe=>by rw [h0 i0 e] at hf0;cases hf0
   have hoper:=xai (xs:=ops) (i:=i0) (by omega)
   obtain ⟨o,g1,hco⟩:=hat i0 _ hoper;have:i0 ∈ Region.ready .any ops listed:=zbo.2 ⟨_,hoper,(hge i0 (by omega)).trans hf0,(zdO (zas hco) (listed:=λe=>listed.getD e false)).2 λe he=>hb0 e (hlt i0 o hbi hi0 g1 e he)⟩
   rw [hr] at this;cases this
  obtain ⟨oper,g1,g2,g3⟩:=zbo.1 hi2;have hlt:=(xaR.1 g1).1;have hun:listed.getD i false=false:=(hge i hlt).symm.trans g2;obtain ⟨o,hLo,hcx⟩:=hat i oper g1;have haf:=(zdO (zas hcx) (listed:=λe=>listed.getD e false)).1 g3
  have hib:b<=i:=Nat.not_lt.1 λe=>by rw [h0 i e] at hun;cases hun
  have hie:i < b+n:=Nat.not_le.1 λe=>hall2 (hbar (λj=>listed.getD j false) hc h0 i o e hLo haf)
  obtain ⟨ii,rfl⟩:∃ ii,i=b+ii:=⟨i - b,by omega⟩
  have hgs:∀ j,(listed.setIfInBounds (b+ii) true).getD j false=if j=b+ii then true else listed.getD j false:=λj=>zf1 (by omega)
  unfold wpOpIn;rw [g1];refine hI _ (λj=>(listed.setIfInBounds (b+ii) true).getD j false) a w oper o ii (by omega) hLo hcx hun haf hc hgs hi _ λa' w' hi'=>?_
  refine ih _ a' w' (by simpa using hs) (by have:=ziF hlt hs hun;omega) (λj hj=>by rw [hgs];split<;>first|rfl|exact h0 j hj) (λj hj=>by rw [hgs,if_neg (by omega)];exact h1 j hj) (λj y hy hj e he=>?_) hi'
  rw [hgs] at hj ⊢;have:listed.getD e false=true:=by
   by_cases ej:j=b+ii
   ·subst ej;rw [hLo] at hy;injection hy with hy;subst hy;exact haf e he
   ·rw [if_neg ej] at hj;exact hc j y hy hj e he
  rw [this];simp
theorem znc {ro:Option Nat} (hM:X.MOk) (hch:Ch P l s rs s') (hok:zgT b rs=true) (hcomp:zbt P X.N ops ops.toList=some L)
  (hL:∀ j o,l[j]?=some o->L[b+j]?=some o) (hLl:b+l.length<=L.length)
  (hbar:∀ (S:Nat->Bool),(∀ j o,L[j]?=some o->S j=true->∀ e ∈ o.after,S e=true)->(∀ j,j < b->S j=true)->∀ i o,b+l.length<=i->L[i]?=some o->(∀ e ∈ o.after,S e=true)->∀ j,j < b+l.length->S j=true)
  {QX:Exit->Act->World->Prop}
  (hQ:∀ (fuel:Nat) (listed:Array Bool) (C:Ctx) (a:Act) (w:World),listed.size=ops.size->ziG listed ops.size<=fuel->(∀ j,listed.getD j false=decide (j < b+l.length))->RelC X C s'.get s'.look s'.tr s'.stop a w->wpAnyIn (za4 ro) 0 P .any ops QX fuel listed a w) :
  ∀ (fuel:Nat) (listed:Array Bool) (a:Act) (w:World),listed.size=ops.size->ziG listed ops.size<=fuel->(∀ j,j < b->listed.getD j false=true)->(∀ j,b+l.length<=j->listed.getD j false=false) ->
  (∀ j o,L[j]?=some o->listed.getD j false=true->∀ e ∈ o.after,listed.getD e false=true) ->
  (∃ (C:Ctx) (σ:St),RelC X C σ.get σ.look σ.tr σ.stop a w/\σ.tr=s.tr/\σ.stop=s.stop/\(∀ k,σ.get k=ov gW rs b (λj=>listed.getD j false) s.get k)/\(∀ k,σ.look k=ov oW rs b (λj=>listed.getD j false) s.look k)) ->
  wpAnyIn (za4 ro) 0 P .any ops QX fuel listed a w:=by
 obtain ⟨hlen,htr,hst,hget,hlook⟩:=zCl hch b;have hrec:∀ (i:Nat),i < l.length->∃ x,rs[i]?=some x/\L[b+i]?=some x.o:=λi hi=>by
  have hx:=xac (l:=rs) (i:=i) (by omega)
  obtain ⟨si,g1,_⟩:=zCm hch b i _ hx;exact ⟨_,hx,hL i _ g1⟩
 refine zvi hcomp hLl (λi o h1 h2 h3 e he=>?_) hbar (I:=λS a w=>∃ (C:Ctx) (σ:St),RelC X C σ.get σ.look σ.tr σ.stop a w/\σ.tr=s.tr/\σ.stop=s.stop/\(∀ k,σ.get k=ov gW rs b S s.get k)/\(∀ k,σ.look k=ov oW rs b S s.look k)) ?_ ?_
 ·obtain ⟨x,hx,hLx⟩:=hrec (i - b) (by omega)
  rw [show b+(i - b)=i by omega,h3] at hLx;injection hLx with hLx
  have:=zrA hok hx e (by rw [<-hLx];exact he);omega
 ·rintro fuel listed a w hs hl hd ⟨C,σ,h,h1,h2,h3,h4⟩;have hall:∀ j x,rs[j]?=some x->listed.getD (b+j) false=true:=λj x hx=>by
   have:=(xaa.1 hx).1;rw [hd];exact decide_eq_true (by omega)
  rw [show σ.get=s'.get from funext λk=>by rw [h3 k,hget k];exact zda (λj x hx _=>hall j x hx) rfl,
   show σ.look=s'.look from funext λk=>by rw [h4 k,hlook k];exact zda (λj x hx _=>hall j x hx) rfl,h1,h2,<-htr,<-hst] at h
  exact hQ fuel listed C a w hs hl hd h
 ·rintro S S' a w oper o ii hii hLo hcx hun haf hc hS ⟨C,σ,hrel,e1,e2,e3,e4⟩ K hK;obtain ⟨x,hx,hLx⟩:=hrec ii hii;rw [hLo] at hLx;injection hLx with hLx;subst hLx;obtain ⟨si,_,k2,k3,k4,k5⟩:=zCm hch b ii x hx;have hcR:∀ j y,rs[j]?=some y->S (b+j)=true->∀ e ∈ y.o.after,S e=true:=λj y hy hj=>by
   obtain ⟨y',hy',hLy⟩:=hrec j (by rw [<-hlen];exact (xaa.1 hy).1)
   rw [hy] at hy';injection hy' with hy';subst hy';exact hc (b+j) _ hLy hj
  have hbef:=fun {j y}=>zxb (j:=j) (y:=y) (λi j x y h=>zrB hok h) hcR hx haf hun
  have hT:∀ k,k ∈ x.rT\/k ∈ x.wT->∀ j y,rs[j]?=some y->(gW y k).isSome=true->S (b+j)=decide (j < ii):=λk hk j y hy hw=>hbef hy (cf_T (zwA hw) hk)
  have hO:∀ k,k ∈ x.ro\/k ∈ x.wO->∀ j y,rs[j]?=some y->(oW y k).isSome=true->S (b+j)=decide (j < ii):=λk hk j y hy hw=>hbef hy (cf_O (zwv hw) hk)
  have aT:∀ k,k ∈ x.rT\/k ∈ x.wT->σ.get k=si.get k:=λk hk=>by
   rw [e3 k,k4 k];exact zda (λj y hy hw=>by rw [hT k hk j y hy hw];simp only [decide_eq_decide];omega) rfl
  have aO:∀ k,k ∈ x.ro\/k ∈ x.wO->σ.look k=si.look k:=λk hk=>by
   rw [e4 k,k5 k];exact zda (λj y hy hw=>by rw [hO k hk j y hy hw];simp only [decide_eq_decide];omega) rfl
  have hsem:zbW P σ x.o x.v x.wr:=zlo k2 (λt ht=>aT t (.inl ht)) (λk hk=>aO k (.inl (by rw [k3];exact hk))) (aO _ (.inr xaA)) (λk hk=>aO k (.inr (xaH _ hk)))
  refine zcX (X:=X) (s:=σ) hsem hcx rfl hM hrel λC' a' w' hr'=>hK a' w' ⟨C',(σ.wrs x.wr).set x.o.dst x.v,?_,?_,?_,λk=>?_,λk=>?_⟩
  ·rw [(zV _ _ _).1,(za8 _ _).1,(zV _ _ _).2,(za8 _ _).2];exact hr'
  ·rw [(zV _ _ _).1,(za8 _ _).1];exact e1
  ·rw [(zV _ _ _).2,(za8 _ _).2];exact e2
  ·rw [ziU σ x k];exact zpH hx hS (e3 k) λh=>hT k (.inr (zwA h))
  ·rw [zgD σ x k];exact zpH hx hS (e4 k) λh=>hO k (.inr (zwv h))
def Rec.ft (x:Rec):Ft:=⟨x.o.dst.toList,rdT x.o,x.o.dst.getD 0::x.wr.map (·.1),x.ro,x.o.after,false⟩
def cfF (x y:Ft):Bool:=zeC x.wt y.rt || zeC x.wt y.wt || zeC x.rt y.wt || zeC x.wo y.ro || zeC x.wo y.wo || zeC x.ro y.wo
def zvn (fs:List Ft):Nat->Nat->Nat->Bool
 | 0,_,_=>false
 | f+1,i,j=>match fs[j]? with
  | some x=>x.af.contains i || x.af.any λm=>zvn fs f i m
  | none=>false
def ylOk (fs:List Ft) (p:Nat):Bool:=
 ((List.range p).all λi=>(List.range (p+1)).any λk=>decide (i < k) && match fs[k]? with|some y=>y.af.contains i|none=>false) &&
 (List.range fs.length).all λj=>decide (j<=p) || match fs[j]? with|some y=>y.af.any λe=>decide (p<=e)|none=>false
def zec (fs:List Ft):Bool:=
 (List.range fs.length).all λj=>match fs[j]? with
  | some y=>(y.af.all λe=>decide (e < j)) && if y.yl then ylOk fs j else (List.range j).all λi=>match fs[i]? with
   | some x=>x.yl || !cfF x y || zvn fs 3 i j
   | none=>true
  | none=>true
theorem zCn (x y:Rec):cfF x.ft y.ft=cf x y:=rfl
theorem zcL (h:zec fs=true) {y:Ft} (hy:fs[j]?=some y):(∀ e ∈ y.af,e < j)/\(y.yl=true->ylOk fs j=true)/\(y.yl=false->∀ i x,i < j->fs[i]?=some x->x.yl=false->cfF x y=true->zvn fs 3 i j=true):=by
 have hj:j < fs.length:=(xaa.1 hy).1;simp only [zec,xaO,xaG] at h;have:=h j hj;rw [hy] at this;simp only [xau,xaO,decide_eq_true_eq] at this;refine ⟨this.1,λe=>by have:=this.2;rwa [if_pos e] at this,λe i x hi hx hxl hc=>?_⟩
 have:=this.2;rw [if_neg (by simp [e])] at this
 simp only [xaO,xaG] at this;have:=this i hi;rw [hx] at this;simpa [hxl,hc] using this
theorem zrH (hlt:∀ (j:Nat) (y:Ft),fs[j]?=some y->∀ e ∈ y.af,e < j):∀ (f i j:Nat),zvn fs f i j=true->i < j
 | 0,_,_,h=>by simp [zvn] at h
 | f+1,i,j,h=>by
  simp only [zvn] at h;cases hy:fs[j]? with
  | none=>simp [hy] at h
  | some y=>
   simp only [hy,xbg,xaV] at h
   rcases h with h|⟨m,hm,h⟩
   ·exact hlt j y hy i (by simpa using h)
   ·have:=hlt j y hy m hm;have:=zrH hlt f i m h;omega
theorem znd (hlt:∀ (j:Nat) (y:Ft),fs[j]?=some y->∀ e ∈ y.af,e < j) (hseg:∀ (j:Nat) (x:Rec),rs[j]?=some x->fs[b+j]?=some x.ft):∀ (f i j:Nat),j < rs.length->zvn fs f (b+i) (b+j)=true->dep b rs f i j=true
 | 0,_,_,_,h=>by simp [zvn] at h
 | f+1,i,j,hj,h=>by
  have hx:=xac hj;have hy:=hseg j _ hx;simp only [zvn,hy,xbg,xaV] at h;simp only [dep,hx,xbg,xaV,xau,decide_eq_true_eq]
  rcases h with h|⟨m,hm,h⟩
  ·exact .inl h
  ·have h1:=hlt _ _ hy m hm;have h2:=zrH hlt f _ m h;exact .inr ⟨m,hm,by omega,znd hlt hseg f i (m - b) (by omega) (by rw [show b+(m - b)=m by omega];exact h)⟩
theorem zhO (h:zec fs=true) (hseg:∀ (j:Nat) (x:Rec),rs[j]?=some x->fs[b+j]?=some x.ft):zgT b rs=true:=by
 have hlt:∀ (j:Nat) (y:Ft),fs[j]?=some y->∀ e ∈ y.af,e < j:=λj y hy=>(zcL h hy).1
 simp only [zgT,xaO,xaG];intro j hj;have hx:=xac hj;have hy:=hseg j _ hx;rw [hx];simp only [xau,xaO,decide_eq_true_eq,xaG];refine ⟨hlt _ _ hy,λi hi=>?_⟩
 have hxi:=xac (l:=rs) (i:=i) (by omega)
 have hyi:=hseg i _ hxi;rw [hxi];simp only [xbg,xbv];cases hc:cf rs[i] rs[j] with
 | false=>exact .inl rfl
 | true=>exact .inr (znd hlt hseg 3 i j hj ((zcL h hy).2.2 rfl (b+i) _ (by omega) hyi rfl (by rw [zCn];exact hc)))
theorem zfq:∀ {l:List RO} {s:St} {acc:List Ft},zp P ts true K l s acc ->
  (∃ rs s',Ch P l s rs s'/\K s' ((rs.map Rec.ft).reverse++acc)) \/
  ∃ l1 o l2 rs s1 t ks,l=l1++o::l2/\Ch P l1 s rs s1/\YOp ts s1 o t ks/\∀ b,zp P ts true K l2 (ySt s1 o t ks b) (accY true ((rs.map Rec.ft).reverse++acc) o)
 | [],s,acc,h=>.inl ⟨[],s,.nil s,by simpa [zp] using h⟩
 | o::r,s,acc,.inl ⟨v,wr,h1,h2⟩=>by
  have e:∀ rs:List Rec,((⟨o,v,wr,rdO s o⟩::rs:List Rec).map Rec.ft).reverse++acc=(rs.map Rec.ft).reverse++zT true acc s o wr:=λrs=>by simp [zT,zBB,Rec.ft]
  rcases zfq h2 with ⟨rs,s',h3,h4⟩|⟨l1,o',l2,rs,s1,t,ks,h3,h4,h5,h6⟩
  ·exact .inl ⟨_,s',.cons h1 h3,by rw [e];exact h4⟩
  ·exact .inr ⟨o::l1,o',l2,_,s1,t,ks,by rw [h3];rfl,.cons h1 h4,h5,λb=>by rw [e];exact h6 b⟩
 | o::r,s,acc,.inr (.inr (.inl ⟨h,_⟩))=>by cases h
 | o::r,s,acc,.inr (.inr (.inr ⟨h,_⟩))=>by cases h
 | o::r,s,acc,.inr (.inl ⟨t,ks,h1,h2⟩)=>.inr ⟨[],o,r,[],s,t,ks,rfl,.nil s,h1,λb=>by simpa using h2 b⟩
theorem zgm:∀ {l:List RO} {s:St} {acc:List Ft},zp P ts true K l s acc ->
  ∃ (s':St) (fs:List Ft),K s' (fs.reverse++acc)/\fs.length=l.length/\∀ (j:Nat) (o:RO),l[j]?=some o->∃ y,fs[j]?=some y/\y.af=o.after
 | [],s,acc,h=>⟨s,[],by simpa [zp] using h,rfl,λj o hj=>by simp at hj⟩
 | o::r,s,acc,h=>by
  have key:∀ (ft:Ft) (s1:St),ft.af=o.after->zp P ts true K r s1 (ft::acc)->∃ (s':St) (fs:List Ft),K s' (fs.reverse++acc)/\fs.length=(o::r).length/\∀ (j:Nat) (o':RO),(o::r)[j]?=some o'->∃ y,fs[j]?=some y/\y.af=o'.after:=λft s1 e h=>by
   obtain ⟨s',fs,h1,h2,h3⟩:=zgm h;refine ⟨s',ft::fs,by simpa using h1,by simp [h2],λj o' hj=>?_⟩
   cases j with
   | zero=>simp at hj;subst hj;exact ⟨ft,rfl,e⟩
   | succ j=>exact h3 j o' (by simpa using hj)
  rcases h with ⟨v,wr,h1,h2⟩|⟨t,ks,h1,h2⟩|⟨h,_⟩|⟨h,_⟩
  ·exact key _ _ rfl h2
  ·exact key _ _ rfl (h2 true)
  ·cases h
  ·cases h
theorem zwO (h:Ch P l s rs s'):rs.length=l.length/\∀ (j:Nat) (o:RO),l[j]?=some o->∃ x,rs[j]?=some x/\x.o=o:=by
 induction h with
 | nil=>exact ⟨rfl,λj o hj=>by simp at hj⟩
 | @cons o r s s' v wr rs hs hch ih=>
  refine ⟨by simp [ih.1],λj o' hj=>?_⟩
  cases j with
  | zero=>simp at hj;subst hj;exact ⟨_,rfl,rfl⟩
  | succ j=>exact ih.2 j o' (by simpa using hj)
theorem zvj {ro:Option Nat} (hM:X.MOk) (hy:ts=[]∨(zeU P X ts∧zdu X.J X.Jx)) (hcomp:zbt P X.N ops ops.toList=some L)
  {QX:Exit→Act→World→Prop}:∀ (n:Nat) (l:List RO) (b:Nat) (s:St) (acc:List Ft),l.length≤n→L.drop b=l→b≤L.length→acc.length=b→(∀ (j:Nat) (o:RO),j < b→L[j]?=some o→∃ y:Ft,acc.reverse[j]?=some y∧y.af=o.after) →
  zp P ts true (fun s acc=>zec acc.reverse=true∧∀ C a w,RelC X C s.get s.look s.tr s.stop a w→QX .normal a w) l s acc →
  ∀ (fuel:Nat) (listed:Array Bool) (C:Ctx) (a:Act) (w:World),listed.size=ops.size→ziG listed ops.size≤fuel→(∀ j,listed.getD j false=decide (j < b))→RelC X C s.get s.look s.tr s.stop a w→wpAnyIn (za4 ro) 0 P .any ops QX fuel listed a w:=by
 intro n
 induction n with
 | zero=>
  intro l b s acc hl hLb hbL hacc haf hrun fuel listed C a w hs hle hlisted hr
  have:l=[]:=xay (by omega)
  subst this
  obtain ⟨hcl,hcg⟩:=zcj hcomp
  have hLe:L.length≤b:=by have:=congrArg List.length hLb;simp at this;omega
  have hsz:ops.size=L.length:=by rw [←hcl];simp
  have hall:∀ i,i < ops.size→listed.getD i false=true:=fun i hi=>by
   rw [hlisted]
   simp
   omega
  have hno:Region.ready .any ops listed=[]:=xb2.2 fun i hi=>by
   obtain ⟨oper,h1,h2,_⟩:=zbo.1 hi
   have hlt:=(xaR.1 h1).1
   have:=hall i hlt
   rw [xag,xai (by omega)] at this h2
   simp only [xa7] at this h2
   rw [this] at h2;cases h2
  have hq:=hrun.2 C a w hr
  cases fuel with
  | zero=>exact ⟨hno,hq⟩
  | succ fuel=>exact ⟨fun _=>hq,fun i hi=>by rw [hno] at hi;cases hi⟩
 | succ n ih=>
  intro l b s acc hl hLb hbL hacc haf hrun fuel listed C a w hs hle hlisted hr
  obtain ⟨hcl,hcg⟩:=zcj hcomp
  have hn:L.length=ops.size:=by rw [←hcl];simp
  have hLl:∀ j,l[j]?=L[b+j]?:=fun j=>by rw [←hLb,xaY]
  have hlen:b+l.length=L.length:=by have:=congrArg List.length hLb;simp at this;omega
  have hstart:∀ (rs:List Rec),∃ (C:Ctx) (σ:St),RelC X C σ.get σ.look σ.tr σ.stop a w∧σ.tr=s.tr∧σ.stop=s.stop∧(∀ k,σ.get k=ov gW rs b (fun j=>listed.getD j false) s.get k)∧(∀ k,σ.look k=ov oW rs b (fun j=>listed.getD j false) s.look k):=fun rs=>
   ⟨C,s,hr,rfl,rfl,fun k=>(zd6 fun j hj=>by rw [hlisted];simp;omega).symm,fun k=>(zd6 fun j hj=>by rw [hlisted];simp;omega).symm⟩
  have hdown:∀ (j:Nat) (o:RO),L[j]?=some o→(∀ e ∈ o.after,e < j)→listed.getD j false=true→∀ e ∈ o.after,listed.getD e false=true:=fun j o hj hlt hl e he=>by
   rw [hlisted] at hl ⊢
   have:=hlt e he
   simp at hl ⊢;omega
  rcases zfq hrun with ⟨rs,s',hch,hok,hQ⟩|⟨l1,o,l2,rs,s1,t,ks,he,hch,hyo,hrest⟩
  ·-- no call of yield any more
   obtain ⟨c1,c2⟩:=zwO hch
   rw [List.reverse_append,List.reverse_reverse] at hok
   have hseg:∀ (j:Nat) (x:Rec),rs[j]?=some x→(acc.reverse++rs.map Rec.ft)[b+j]?=some x.ft:=fun j x hx=>by
    rw [xaB (by simp [hacc])]
    simp [hacc,hx]
   have hF:∀ (j:Nat) (o:RO),L[j]?=some o→∃ y:Ft,(acc.reverse++rs.map Rec.ft)[j]?=some y∧y.af=o.after:=fun j o hj=>by
    by_cases e:j < b
    ·obtain ⟨y,h1,h2⟩:=haf j o e hj
     exact ⟨y,by rw [xaT (by simp [hacc,e])];exact h1,h2⟩
    ·obtain ⟨x,h1,h2⟩:=c2 (j - b) o (by rw [hLl,show b+(j - b)=j by omega];exact hj)
     have:=hseg _ _ h1
     rw [show b+(j - b)=j by omega] at this
     exact ⟨_,this,by rw [←h2];rfl⟩
   refine znc hM hch (zhO hok hseg) hcomp (fun j o hj=>by rw [←hLl];exact hj) (by omega) (fun S _ _ i o hi hLi=>?_) (fun fuel listed C a w h1 h2 h3 h4=>?_) fuel listed a w hs hle (fun j hj=>by rw [hlisted];simp [hj]) (fun j hj=>by rw [hlisted];simp;omega) (fun j o hj=>hdown j o hj fun e he=>?_) (hstart rs)
   ·have:=(xaa.1 hLi).1;omega
   ·have hall:∀ i,i < ops.size→listed.getD i false=true:=fun i hi=>by rw [h3];simp;omega
    have hno:Region.ready .any ops listed=[]:=xb2.2 fun i hi=>by
     obtain ⟨oper,g1,g2,_⟩:=zbo.1 hi
     have hlt:=(xaR.1 g1).1
     have:=hall i hlt
     rw [xag,xai (by omega)] at this g2
     simp only [xa7] at this g2
     rw [this] at g2;cases g2
    have hq:=hQ C a w h4
    cases fuel with
    | zero=>exact ⟨hno,hq⟩
    | succ fuel=>exact ⟨fun _=>hq,fun i hi=>by rw [hno] at hi;cases hi⟩
   ·obtain ⟨y,k1,k2⟩:=hF j o hj
    exact (zcL hok k1).1 e (by rw [k2];exact he)
  ·-- up to a call of yield
   subst he
   obtain ⟨c1,c2⟩:=zwO hch
   obtain ⟨s',fs,⟨hok,_⟩,hfl,hfa⟩:=zgm (hrest true)
   let q:=b+l1.length
   let fy:Ft:=⟨o.dst.toList,rdT o,[],[],o.after,true⟩
   let F:=acc.reverse++rs.map Rec.ft++fy::fs
   have hF0:(fs.reverse++accY true ((rs.map Rec.ft).reverse++acc) o).reverse=F:=by simp [accY,F,fy]
   rw [hF0] at hok
   have hLq:L[q]?=some o:=by
    have:=hLl l1.length
    rw [←this];simp
   have hFq:F[q]?=some fy:=by
    show (acc.reverse++rs.map Rec.ft++fy::fs)[q]?=_
    rw [xaB (by simp [hacc,c1,q])]
    simp [hacc,c1,q]
   have hseg:∀ (j:Nat) (x:Rec),rs[j]?=some x→F[b+j]?=some x.ft:=fun j x hx=>by
    have hj:=(xaa.1 hx).1
    show (acc.reverse++rs.map Rec.ft++fy::fs)[b+j]?=_
    rw [xaT (by simp [hacc];omega),xaB (by simp [hacc])]
    simp [hacc,hx]
   have hF:∀ (j:Nat) (o':RO),L[j]?=some o'→∃ y:Ft,F[j]?=some y∧y.af=o'.after:=fun j o' hj=>by
    by_cases e:j < b
    ·obtain ⟨y,h1,h2⟩:=haf j o' e hj
     refine ⟨y,?_,h2⟩
     show (acc.reverse++rs.map Rec.ft++fy::fs)[j]?=_
     rw [xaT (by simp [hacc];omega),xaT (by simp [hacc,e])]
     exact h1
    ·by_cases e1:j < q
     ·have:l1[j - b]?=some o':=by
       have h3:=hLl (j - b)
       rw [show b+(j - b)=j by omega,hj,xaT (by simp only [q] at e1;omega)] at h3
       exact h3
      obtain ⟨x,h1,h2⟩:=c2 (j - b) o' this
      have:=hseg _ _ h1
      rw [show b+(j - b)=j by omega] at this
      exact ⟨_,this,by rw [←h2];rfl⟩
     ·by_cases e2:j=q
      ·subst e2;rw [hLq] at hj;injection hj with hj;subst hj;exact ⟨_,hFq,rfl⟩
      ·have:l2[j - q - 1]?=some o':=by
        have h3:=hLl (j - b)
        rw [show b+(j - b)=j by omega,hj,xaB (by simp only [q] at e1;omega),show j - b - l1.length=(j - q - 1)+1 by simp only [q] at e1 e2 ⊢;omega] at h3
        simpa using h3
       obtain ⟨y,h1,h2⟩:=hfa _ _ this
       refine ⟨y,?_,h2⟩
       show (acc.reverse++rs.map Rec.ft++fy::fs)[j]?=_
       rw [xaB (by simp [hacc,c1];simp only [q] at e1;omega)]
       simp only [xad,List.length_reverse,hacc,xaf,c1]
       rw [show j - (b+l1.length)=(j - q - 1)+1 by simp only [q] at e1 e2 ⊢;omega]
       simpa using h1
   have hlt:∀ (j:Nat) (o':RO),L[j]?=some o'→∀ e ∈ o'.after,e < j:=fun j o' hj e he=>by
    obtain ⟨y,k1,k2⟩:=hF j o' hj
    exact (zcL hok k1).1 e (by rw [k2];exact he)
   have hyl:=(zcL hok hFq).2.1 rfl
   simp only [ylOk,xau,xaO,xaG,xaV,decide_eq_true_eq,xbg] at hyl
   obtain ⟨hbefore,hbehind⟩:=hyl
   have hbehind':∀ (j:Nat) (o':RO),q < j→L[j]?=some o'→∃ e ∈ o'.after,q≤e:=fun j o' hqj hj=>by
    obtain ⟨y,k1,k2⟩:=hF j o' hj
    have:=hbehind j (xaa.1 k1).1
    rw [k1] at this
    rcases this with h|h
    ·omega
    ·simp only [xaV,decide_eq_true_eq] at h
     obtain ⟨e,h1,h2⟩:=h
     exact ⟨e,by rw [←k2];exact h1,h2⟩
   have hbefore':∀ i,i < q→∃ (k:Nat) (o':RO),i < k∧k≤q∧L[k]?=some o'∧i ∈ o'.after:=fun i hi=>by
    obtain ⟨k,hk,hik,h⟩:=hbefore i hi
    have hkL:k < L.length:=by have:=(xaa.1 hLq).1;omega
    have hLk:=xac hkL
    obtain ⟨y,k1,k2⟩:=hF k _ hLk
    rw [k1] at h
    exact ⟨k,_,hik,by omega,hLk,by rw [←k2];simpa using h⟩
   refine znc hM hch (zhO hok hseg) hcomp (fun j o' hj=>?_) (by have:=(xaa.1 hLq).1;simp only [q] at this;omega) (fun S hcl h0 i o' hi hLi hS=>?_) (fun fuel listed C a w h1 h2 h3 h4=>?_) fuel listed a w hs hle (fun j hj=>by rw [hlisted];simp [hj]) (fun j hj=>by rw [hlisted];simp;omega) (fun j o hj=>hdown j o hj (hlt j o hj)) (hstart rs)
   ·rw [←hLl,xaT (xaa.1 hj).1];exact hj
   ·-- nothing behind is ready before all ahead is done
    have hSq:∀ e ∈ o.after,S e=true:=by
     have key:∀ (m i:Nat) (o':RO),i≤m→q≤i→L[i]?=some o'→(∀ e ∈ o'.after,S e=true)→∀ e ∈ o.after,S e=true:=by
      intro m
      induction m with
      | zero=>
           intro i o' hm hq2 hLi hS2
           have:i=q:=by omega
           subst this;rw [hLq] at hLi;injection hLi with hLi;subst hLi;exact hS2
      | succ m ihm=>
       intro i o' hm hq2 hLi hS2
       by_cases e:i=q
       ·subst e;rw [hLq] at hLi;injection hLi with hLi;subst hLi;exact hS2
       ·obtain ⟨e2,h1,h2⟩:=hbehind' i o' (by omega) hLi
        have he2:=hlt i o' hLi e2 h1
        have hLe:=xac (l:=L) (i:=e2) (by have:=(xaa.1 hLi).1;omega)
        exact ihm e2 _ (by omega) h2 hLe (hcl e2 _ hLe (hS2 e2 h1))
     exact key i i o' (xap _) hi hLi hS
    have key:∀ m j,q - j≤m→j < q→S j=true:=by
     intro m
     induction m with
     | zero=>intro j h1 h2;omega
     | succ m ihm=>
      intro j h1 h2
      obtain ⟨k,o2,g1,g2,g3,g4⟩:=hbefore' j h2
      by_cases e:k=q
      ·subst e;rw [hLq] at g3;injection g3 with g3;subst g3;exact hSq j g4
      ·exact hcl k o2 g3 (ihm k (by omega) (by omega)) j g4
    exact fun j hj=>key (q - j) j (xap _) hj
   ·-- the call of yield
    have hqlt:q < ops.size:=by rw [←hn];exact (xaa.1 hLq).1
    have hlq:listed.getD q false=false:=by rw [h3];simp [q]
    cases fuel with
    | zero=>have:=zgF (Nat.le_zero.1 h2) q hqlt;rw [this] at hlq;cases hlq
    | succ fuel=>
     have hready:∀ i,i ∈ Region.ready .any ops listed→i=q:=fun i hi=>by
      obtain ⟨oper,g1,g2,g3⟩:=zbo.1 hi
      have hilt:=(xaR.1 g1).1
      have hun:listed.getD i false=false:=by
       rw [xag,xai (by omega)] at g2 ⊢
       exact g2
      rw [h3] at hun
      simp at hun
      obtain ⟨o',hLo,hcx⟩:=hcg i oper (by simpa using g1)
      have haf2:=(zdO (zas hcx) (listed:=fun e=>listed.getD e false)).1 g3
      refine xbC fun hne=>?_
      obtain ⟨e,he,hqe⟩:=hbehind' i o' (by simp only [q] at *;omega) hLo
      have:=haf2 e he
      rw [h3] at this
      simp at this
      simp only [q] at hqe;omega
     have hoper:=xai hqlt
     obtain ⟨o',hLo,hcx⟩:=hcg q _ (by rw [Array.getElem?_toList];exact hoper)
     rw [hLq] at hLo;injection hLo with hLo;subst hLo
     have hmem:q ∈ Region.ready .any ops listed:=zbo.2 ⟨_,hoper,by
      rw [xag] at hlq ⊢
      rw [xai (by omega)] at hlq ⊢
      exact hlq,(zdO (zas hcx) (listed:=fun e=>listed.getD e false)).2 fun e he=>by rw [h3];have:=hlt q o hLq e he;simp;simp only [q] at this;omega⟩
     refine ⟨fun hr0=>(by rw [hr0] at hmem;cases hmem),fun i hi=>?_⟩
     have hiq:=hready i hi
     subst hiq
     unfold wpOpIn
     rw [hoper]
     rcases hy with hy|⟨hy,hj⟩
     ·obtain ⟨_,_,_,_,_,_,_,_,_,_,_,post,hts⟩:=hyo
      rw [hy] at hts
      simp at hts
     refine zgc hyo hcx rfl hM hy hj h4 fun bb C' a' w' h'=>?_
     have e1:(ySt s1 o t ks bb).tr=s1.tr++[t]:=(zV _ _ _).1
     have e2:(ySt s1 o t ks bb).stop=!bb:=(zV _ _ _).2
     rw [←e1,←e2] at h'
     refine ih l2 (q+1) _ _ (by simp at hl;omega) ?_ (by rw [hn];omega) (by simp [accY,hacc,c1,q];omega) (fun j o' hj hLj=>?_) (hrest bb) fuel _ C' a' w' (by simpa using h1) (by have:=ziF hqlt h1 hlq;omega) (fun j=>?_) h'
     ·have:=congrArg (List.drop (l1.length+1)) hLb
      rw [xbP] at this
      rw [show q+1=b+(l1.length+1) by simp only [q];omega,this]
      simp
     ·obtain ⟨y,k1,k2⟩:=hF j o' hLj
      refine ⟨y,?_,k2⟩
      rw [show (accY true ((rs.map Rec.ft).reverse++acc) o).reverse=acc.reverse++rs.map Rec.ft++[fy] by simp [accY,fy]]
      have:F=(acc.reverse++rs.map Rec.ft++[fy])++fs:=by simp [F]
      rw [this,xaT (by simp [hacc,c1];simp only [q] at hj;omega)] at k1
      exact k1
     ·rw [zf1 (by omega),h3]
      by_cases e:j=q
      ·rw [if_pos e];subst e;simp
      ·rw [if_neg e];simp only [decide_eq_decide];simp only [q] at *;omega
theorem ztm {Q:zam} (hm:G.P.follows .mixedOrders=true) (h:∀ K:St->List Ft->Prop,(∀ s acc,zec acc.reverse=true->Q .normal s->K s acc)->zF true (zp G.P G.ts true K) l s []):Run G (.ops true l) s Q:=by
 intro hG code hc C a w hr;cases code<;>simp only [zI,xab] at hc
 case region id ops draw=>
  obtain ⟨l',h1,hc⟩:=hc;injection hc with e1 e2;subst e1;subst e2;have hrun:=zw (h (λs acc=>zec acc.reverse=true/\∀ C a w,RelC G.X C s.get s.look s.tr s.stop a w->QQ G Q .normal a w) λs acc h1 h2=>⟨h1,λC a w hr=>⟨s,C,hr,h2⟩⟩)
  have hb:Below w.heap.size w { w with drawn:=w.drawn+1 }:=⟨rfl,rfl,rfl,xap _,λ_ _=>rfl⟩
  have hr1:=hr.grow hb C.B (λ_ h=>h) (λb hb=>.inl hb)
  refine wpIn_region_any hm ?_;refine zvj hG.mok hG.yok h1 l'.length l' 0 s [] (xap _) rfl (xbk _) rfl (λj o hj=>by omega) hrun ops.size _ _ a _ (by simp) ?_ (λj=>?_) hr1
  ·unfold ziG;exact xa0 (List.countP_le_length) (by simp)
  ·rw [xag]
   by_cases e:j < ops.size
   ·rw [xai (by simpa using e)];simp
   ·rw [xbW (by simpa using e)];simp
 all_goals first|(cases hc;done)|(obtain ⟨_,_,hc⟩:=hc;cases hc;done)|(split at hc<;>cases hc;done)
def zcg (k:Nat) (q q':LV):Prop:=q'=q\/(q=.p .nilsl/\q'=.row k 0)
def zaT (k:Nat):List LV->List LV->Prop
 | [],[]=>True
 | q::r,q'::r'=>zcg k q q'/\zaT k r r'
 | _,_=>False
def za9 (k:Nat) (s:St):List (Nat × LV)->Prop
 | []=>True
 | (t,v)::r=>zcg k (s.get t) v/\za9 k s r
def za3 (k:Nat) (s:St):List (Nat × LObj)->Prop
 | []=>True
 | (j,.box cs fz)::r=>(match s.look j with|some (.box cs0 fz0)=>fz=fz0/\zaT k cs0 cs|_=>False)/\za3 k s r
 | (j,o)::r=>s.look j=some o/\za3 k s r
def Own (k e sz:Nat) (s:St) (env:List (Nat × LV)) (obj:List (Nat × LObj)):Prop:=
 0 < sz/\s.look k=none/\za9 k s env/\za3 k s obj/\scEnv (zm ((k,.row e sz [] false)::obj)) env/\scObj (zm ((k,.row e sz [] false)::obj)) obj
theorem zhy {k:Nat}:∀ {l l':List LV},zaT k l l'->l.length=l'.length/\∀ (j:Nat) (q q':LV),l[j]?=some q->l'[j]?=some q'->zcg k q q'
 | [],[],_=>⟨rfl,λj q q' h=>by simp at h⟩
 | [],_::_,h=>h.elim
 | _::_,[],h=>h.elim
 | x::r,x'::r',h=>by
  obtain ⟨h1,h2⟩:=zhy h.2;refine ⟨by simp [h1],λj q q' hq hq'=>?_⟩
  cases j with
  | zero=>simp at hq hq';subst hq;subst hq';exact h.1
  | succ j=>exact h2 j q q' (by simpa using hq) (by simpa using hq')
theorem zhv {k:Nat}:∀ {l:List (Nat × LV)},za9 k s l->∀ t,zcg k (s.get t) (zS l t)\/zS l t=.any
 | [],_,t=>.inr rfl
 | (j,v)::r,h,t=>by
  simp only [zS]
  split
  ·rename_i e;subst e;exact .inl h.1
  ·exact zhv h.2 t
theorem zgy {k:Nat}:∀ {l:List (Nat × LObj)},za3 k s l->∀ j o,zm l j=some o->s.look j=some o\/∃ cs0 cs fz,s.look j=some (.box cs0 fz)/\o=.box cs fz/\zaT k cs0 cs
 | [],_,j,o,h=>by simp [zm] at h
 | (i,u)::r,h,j,o,ho=>by
  simp only [zm] at ho
  split at ho
  ·rename_i e;subst e;injection ho with ho;subst ho;cases u with
   | box cs fz=>
    have h1:=h.1
    split at h1
    ·rename_i cs0 fz0 hl;obtain ⟨rfl,h2⟩:=h1;exact .inr ⟨cs0,cs,_,hl,rfl,h2⟩
    ·exact h1.elim
   | _=>exact .inl h.1
  ·refine zgy ?_ j o ho;cases u<;>exact h.2
theorem RelC.own {C:Ctx} {a:Act} {w:World} {k e sz:Nat} {obj:List (Nat × LObj)} (h:RelC X C s.get s.look s.tr s.stop a w) (ho:Own k e sz s env obj) :
  ∃ C',RelC X C' (zS env) (zm ((k,.row e sz [] false)::obj)) s.tr s.stop a w:=by
 obtain ⟨h0,hk,he,hob,hse,hso⟩:=ho
 let v:Value:=.slice none 0 0
 have h1:=h.lay (C':={ C with cur:=upd C.cur k v }) (d:=k) (o:=.row e sz [] false) hk rfl rfl rfl rfl rfl (λ_ _=>rfl) (λj hj=>zA _ _ hj) ⟨[],by
   show w.ownsRow 0 e sz (upd C.cur k v k) 0 [];rw [zk];exact World.ownsRow_nil w 0 e sz,.nil,by simp,h0⟩ trivial rfl (λb hb=>by simp [blk,zk,v,Value.ownBlock] at hb)
 let look1:=upd s.look k (some (LObj.row e sz [] false))
 have hnil:∀ (u:Value) (q q':LV),zcg k q q'->RepL w { C with cur:=upd C.cur k v } look1 u q->RepL w { C with cur:=upd C.cur k v } look1 u q':=λu q q' hq hr=>by
  rcases hq with rfl|⟨rfl,rfl⟩
  ·exact hr
  ·have:=ze hr;cases this;exact zer (zk _ _ _)
 let l':=zm ((k,.row e sz [] false)::obj)
 have was:∀ j o,l' j=some o->∃ o1,look1 j=some o1/\(o1=o\/∃ cs0 cs fz,o1=.box cs0 fz/\o=.box cs fz/\zaT k cs0 cs):=λj o hj=>by
  simp only [l',zm] at hj
  by_cases ej:j=k
  ·subst ej;rw [if_pos rfl] at hj;injection hj with hj;subst hj;exact ⟨_,zk _ _ _,.inl rfl⟩
  ·rw [if_neg ej] at hj
   rcases zgy hob j o hj with h2|⟨cs0,cs,fz,h2,h3,h4⟩
   ·exact ⟨o,by rw [show look1 j=s.look j from zA _ _ ej];exact h2,.inl rfl⟩
   ·exact ⟨_,by rw [show look1 j=s.look j from zA _ _ ej];exact h2,.inr ⟨cs0,cs,fz,rfl,h3,h4⟩⟩
 have rows:∀ j e2 s2 xs fz,l' j=some (.row e2 s2 xs fz)->look1 j=some (.row e2 s2 xs fz):=λj e2 s2 xs fz hj=>by
  obtain ⟨o1,h2,rfl|⟨cs0,cs,fz',_,h4,_⟩⟩:=was j _ hj
  ·exact h2
  ·cases h4
 have re:∀ u q,RepL w { C with cur:=upd C.cur k v } look1 u q->RepL w { C with cur:=upd C.cur k v } l' u q:=λu q hq=>by
  induction hq with
  | p h=>exact .p h
  | g h h2 ih=>exact .g ih h2
  | lp=>exact .lp
  | row h=>exact .row λe2 s2 xs fz hj=>h e2 s2 xs fz (rows _ _ _ _ _ hj)
  | ep h=>exact .ep λe2 s2 xs fz hj=>h e2 s2 xs fz (rows _ _ _ _ _ hj)
  | it=>exact .it
  | lm=>exact .lm
  | fn h1 h2 _ _ ih1 ih2=>exact .fn h1 h2 ih1 ih2
  | agg h1 _ ih=>exact .agg h1 ih
  | tup h1 _ ih=>exact .tup h1 ih
  | yield=>exact .yield
  | any u=>exact .any u
 have same:∀ j o,l' j=some o->∃ o1,look1 j=some o1/\(∀ C2:Ctx,blk C2 j o1=blk C2 j o)/\o1.frozen=o.frozen:=λj o hj=>by
  obtain ⟨o1,h2,rfl|⟨cs0,cs,fz,rfl,rfl,_⟩⟩:=was j o hj
  ·exact ⟨_,h2,λ_=>rfl,rfl⟩
  ·exact ⟨_,h2,λ_=>rfl,rfl⟩
 refine ⟨{ C with cur:=upd C.cur k v },{ h1 with
  env:=λt=>re _ _ ?_
  envs:=zdh hse
  obj:=λj o hj=>?_
  objs:=λj o hj=>?_
  sep:=λj o b hj hb=>?_
  dis:=λj j' o o' b hne hj hj' hb hb'=>?_
  marks:=h1.marks.same λr _ _ hnb hnd hno=>⟨rfl,hnb,hnd,λj o hj hb=>?_⟩
  nn:=λj o b hj hb hf=>?_ }⟩
 ·rcases zhv he t with h2|h2
  ·exact hnil _ _ _ h2 (h1.env t)
  ·rw [h2];exact .any _
 ·obtain ⟨o1,h2,rfl|⟨cs0,cs,fz,rfl,rfl,h3⟩⟩:=was j o hj
  ·have:=h1.obj j _ h2;cases o1 with
   | box cs fz=>
    obtain ⟨arr,ty,g1,g2,g3⟩:=this;exact ⟨arr,ty,g1,g2,λi u q hu hq=>re _ _ (g3 i u q hu hq)⟩
   | _=>exact this
  ·obtain ⟨arr,ty,g1,g2,g3⟩:=h1.obj j _ h2;obtain ⟨f1,f2⟩:=zhy h3;refine ⟨arr,ty,g1,by omega,λi u q hu hq=>re _ _ ?_⟩
   have hi:i < cs0.length:=by rw [f1];exact (xaa.1 hq).1
   exact hnil _ _ _ (f2 i _ _ (xac hi) hq) (g3 i u _ hu (xac hi))
 ·simp only [zm] at hj
  by_cases ej:j=k
  ·subst ej;rw [if_pos rfl] at hj;injection hj with hj;subst hj;trivial
  ·rw [if_neg ej] at hj;exact zaZ hso j o hj
 ·obtain ⟨o1,h2,h3,h4⟩:=same j o hj;rw [<-h4];exact h1.sep j o1 b h2 (by rw [h3];exact hb)
 ·obtain ⟨o1,h2,h3,_⟩:=same j o hj;obtain ⟨o2,g2,g3,_⟩:=same j' o' hj';exact h1.dis j j' o1 o2 b hne h2 g2 (by rw [h3];exact hb) (by rw [g3];exact hb')
 ·obtain ⟨o1,h2,h3,_⟩:=same j o hj;exact hno j o1 h2 (by rw [h3];exact hb)
 ·obtain ⟨o1,h2,h3,h4⟩:=same j o hj;exact h1.nn j o1 b h2 (by rw [h3];exact hb) (by rw [h4];exact hf)
theorem zaB {Q:zam} (k e sz:Nat) (env:List (Nat × LV)) (obj:List (Nat × LObj)) (ho:Own k e sz s env obj) (h:Run G c ⟨env,(k,.row e sz [] false)::obj,s.tr,s.stop⟩ Q):Run G c s Q:=by
 intro hG code hc C a w hr;obtain ⟨C',h'⟩:=hr.own ho;exact h hG code hc C' a w h'
def zsz (P:Program) (f:Nat) (caps:List PV) (ts:List (List PV)):Prop:=
 zb3 P f/\∀ (w:World) (B:Nat->Prop) (y:Nat) (vs:List Value) (J:List (List PV)->(Nat->Prop)->(Nat->Prop)->World->Prop) (Jx:List (List PV)->(Nat->Prop)->World->Prop) (D O:Nat->Prop),
  (∀ b,B b->b < w.heap.size)->Reps w B vs caps->(∀ b,D b->b < w.heap.size)->(∀ b,O b->¬B b/\D b)->zdu J Jx->zga P y B w.heap.size J Jx ts->J [] D O w ->
  Calls P f (.func (.yield y) #[] #[]::vs).toArray w λe w'=>(∃ u,e=.returned u)/\((∃ D' O',J ts D' O' w')\/∃ pre D',Jx pre D' w')
def zch (caps:List PV):St:=⟨(0,.yield)::((caps.zipIdx 1).map λx=>(x.2,.p x.1)),[],[],false⟩
def zBt (ts:List (List PV)):zam
 | .normal,s=>s.stop=true\/s.tr=ts
 | .ret,s=>s.stop=true\/s.tr=ts
 | .exit _,_=>False
theorem zlz {fn : Func} {body : Code} {c : AC} {caps : List PV} {ts : List (List PV)} (hf : P.funcs[f]? = some fn) (hname : (fn.name == "runtime.NumGoroutine") = false) (hb : fn.body = some body)
  (hc:zI P fn.ntmps body=some c) (hrs:zaF P fn.results.toList=some []) (hn:caps.length+1≤fn.ntmps) (hgb:fn.ntmps≤GB)
  (hrun:wfs caps→∀ X:Fx,X.N=fn.ntmps→Run ⟨P,X,none,ts⟩ c (zch caps) (zBt ts)):zsz P f caps ts:=by
 refine ⟨⟨fn,body,hf,hname,hb⟩,fun w B y vs J Jx D O hB hvs hD hO hcl hy hJ=>callsIn_wide.1 (callsIn_of_wp_marks (F:=Fence.wide) (n:=0) hf hb trivial ?_ rfl)⟩
 let X:Fx:={ w0:=w,B0:=B,B1:=B,M:=fun _=>False,O0:=O,D0:=D,Bo:=B,no:=w.heap.size,N:=fn.ntmps,y:=y,J:=J,Jx:=Jx,gv:=fun _=>undef,K:=[] }
 have hlen:=hvs.1
 have hN:((.func (.yield y) #[] #[]::vs).toArray++Array.replicate (fn.ntmps - (.func (.yield y) #[] #[]::vs:List Value).toArray.size) undef).size=fn.ntmps:=by simp;omega
 have hget:∀ t,(zch caps).get t=if t=0 then .yield else match caps[t - 1]? with|some v=>.p v|none=>.any:=fun t=>by
  have:=zha caps 1 t
  simp only [zch,St.get,zS]
  by_cases e:t=0
  ·rw [if_pos e,if_pos e]
  ·rw [if_neg e,if_neg e,this,if_pos (by omega)]
   try rfl
 have h0:RelC X { B:=B,ρ:=fun _=>0,cur:=fun _=>undef,y:=y,n:=w.heap.size,dep:=D,own:=O } (zch caps).get (zch caps).look [] false { tmps:=(.func (.yield y) #[] #[]::vs).toArray++Array.replicate (fn.ntmps - (.func (.yield y) #[] #[]::vs:List Value).toArray.size) undef,defers:=[] } w:=
  {
   kx:=KeepX.refl _ _
   yy:=rfl
   b0:=fun b h=>h
   blt:=hB
   bold:=fun b h _=>h
   borg:=fun b h=>.inl h
   no0:=xap _
   tsz:=hN
   ngb:=hgb
   env:=fun t=>by
    rw [hget]
    by_cases e:t=0
    ·subst e
     rw [if_pos rfl,zbc (by decide)]
     have:((.func (.yield y) #[] #[]::vs).toArray++Array.replicate (fn.ntmps - (.func (.yield y) #[] #[]::vs:List Value).toArray.size) undef).getD 0 undef=.func (.yield y) #[] #[]:=by
      rw [xag,xbU (by simp)]
      simp
     show RepL w _ _ (Array.getD _ 0 undef) _
     rw [this]
     exact .yield
    ·rw [if_neg e]
     split
     ·rename_i v hv
      obtain ⟨u,hu,hr⟩:=hvs.get hv
      have ht:t - 1 < caps.length:=(xaa.1 hv).1
      rw [zbc (by show t < GB;have:fn.ntmps≤GB:=hgb;omega)]
      have:((.func (.yield y) #[] #[]::vs).toArray++Array.replicate (fn.ntmps - (.func (.yield y) #[] #[]::vs:List Value).toArray.size) undef).getD t undef=u:=by
       rw [xag,xbU (by simp;omega)]
       rw [xcl,show t=(t - 1)+1 by omega,xbj,hu]
       rfl
      show RepL w _ _ (Array.getD _ t undef) _
      rw [this]
      exact .p hr
     ·exact .any _
   envs:=fun t=>by
    rw [hget]
    split
    ·exact .yield
    ·split
     ·exact .p _
     ·exact .any
   obj:=fun k o hk=>by simp [zch,St.look,zm] at hk
   objs:=fun k o hk=>by simp [zch,St.look,zm] at hk
   sep:=fun k o b hk=>by simp [zch,St.look,zm] at hk
   dis:=fun k k' o o' b _ hk=>by simp [zch,St.look,zm] at hk
   marks:=fun p hp=>by cases hp
   nle:=xap _
   dn:=hD
   nn:=fun k o b hk=>by simp [zch,St.look,zm] at hk
   ow:=hO
   oold:=fun _ h=>.inr h
   dold:=fun _ h=>.inl h
   jj:=.inr ⟨w,hJ,Kept.refl _ _⟩ }
 refine wpIn_mono (hrun hvs.wf X rfl ⟨⟨fun b h=>h.elim,fun b h=>h.elim⟩,.inr ⟨hy,hcl⟩,fun l h=>by cases h⟩ body hc _ _ _ h0) ?_
 rintro e a' w' ⟨s',C',hr',hq⟩
 have key:(s'.stop=true∨s'.tr=ts)→LeavesInM Fence.wide 0 P fn a'.tmps (fun e w'=>(∃ u,e=.returned u)∧((∃ D' O',J ts D' O' w')∨∃ pre D',Jx pre D' w')) a'.defers .returning w':=fun hq=>by
  refine zdp (ro:=none) a'.defers a' w' rfl hr' fun w2 h2=>?_
  obtain ⟨us,hrun,hus⟩:=zdy (fn:=fn) (rs:=[]) hrs h2 rfl trivial
  refine ⟨_,hrun,⟨_,rfl⟩,?_⟩
  rcases h2.jj with hX|⟨wy,h3,h4⟩
  ·exact .inl ⟨D,O,(hX ts D O w2).1⟩
  ·cases hs:s'.stop with
   | true=>
    rw [hs,if_pos rfl] at h3
    exact .inr ⟨_,_,hcl.jx _ _ _ _ h3 h4⟩
   | false=>
    rw [hs,if_neg (by simp)] at h3
    rw [hs] at hq
    have hts:=hq.resolve_left (by simp)
    rw [hts] at h3
    exact .inl ⟨_,_,hcl.j _ _ _ _ _ h3 h4⟩
 cases e with
 | normal=>exact key hq
 | ret=>exact key hq
 | exit id=>exact hq.elim
 | goto l=>exact hq.elim
 | panic c=>exact hq.elim
 | outgrown=>exact hq.elim
theorem ziM (h:zc7 P f=some (c,[],n)) {caps:List PV} (hn:caps.length+1<=n) (hrun:wfs caps->∀ X:Fx,X.N=n->Run ⟨P,X,none,ts⟩ c (zch caps) (zBt ts)):zsz P f caps ts:=by
 unfold zc7 at h
 split at h
 ·rename_i fn hf
  split at h
  ·cases h
  ·rename_i hname
   split at h
   ·rename_i b hb
    split at h
    ·rename_i c' rs' hc hrs
     split at h
     case isFalse=>cases h
     rename_i hgb;injection h with h;injection h with e1 h;injection h with e2 e3;subst e1;subst e2;subst e3;exact zlz hf (by simpa using hname) hb hc hrs hn hgb hrun
    ·cases h
   ·cases h
 ·cases h
def zhA (ds:List Deferred):List (Nat × Obj):=ds.filterMap λd=>match d.target with|.collected r=>some (r,.deferred (some []))|_=>none
def zrG (X:Fx) (C:Ctx) (lk:Nat->Option LObj) (b:Nat):Prop:=b < X.w0.heap.size\/C.B b\/(∃ k o,lk k=some o/\blk C k o=some b)\/(∃ p ∈ X.K,p.1=b)\/C.dep b
def zwr (l:Nat) (C:Ctx) (lk:Nat->Option LObj) (b:Nat):Prop:=(∃ k o,lk k=some o/\o.frozen=false/\blk C k o=some b)\/b=l\/C.own b
section
variable {X:Fx} {C:Ctx} {g:Nat->LV} {lk:Nat->Option LObj} {tr:List (List PV)} {stop:Bool} {a:Act} {w w':World}
theorem RelC.kept (h:RelC X C g lk tr stop a w) (hd:a.defers=[]) (hk:Kept (zrG X C lk) w w'):RelC X C g lk tr stop a w':=by
 have hsz:=hk.size;have hB:∀ b,C.B b->w'.heap[b]?=w.heap[b]?:=λb hb=>hk.block b (.inr (.inl hb))
 have hrow:∀ k e sz xs fz,lk k=some (.row e sz xs fz)->∃ xs' fz',lk k=some (.row e sz xs' fz')/\(xs'.length=xs.length->C.cur k=C.cur k)/\xs.length<=xs'.length:=λk e sz xs fz hk=>⟨xs,fz,hk,λ_=>rfl,xap _⟩
 have hm:=h.marks;rw [hd] at hm;exact { h with
  kx:=⟨hk.os.trans h.kx.os,hk.tape.trans h.kx.tape,hk.output.trans h.kx.output,xa0 h.kx.size hsz,λb hb hm=>(hk.block b (.inl hb)).trans (h.kx.block b hb hm)⟩
  blt:=λb hb=>xaJ (h.blt b hb) hsz
  env:=λt=>(h.env t).same (λ_ h=>h) rfl hB (λ_ _ _=>rfl) hrow (h.envs t)
  obj:=λk o hk2=>(h.obj k o hk2).same (λ_ h=>h) rfl hB (λ_ _ _=>rfl) hrow hk2 (h.objs k o hk2) rfl (λb hb=>hk.block b (.inr (.inr (.inl ⟨k,o,hk2,hb⟩))))
  sep:=λk o b hk2 hb=>by
   obtain ⟨h1,h2,h3,h4⟩:=h.sep k o b hk2 hb;exact ⟨h1,xaJ h2 hsz,h3,h4⟩
  marks:=by
   rw [hd];exact λp hp=>⟨(hk.block p.1 (.inr (.inr (.inr (.inl ⟨p,hp,rfl⟩))))).trans (hm p hp).1,(hm p hp).2⟩
  nle:=xa0 h.nle hsz
  jj:=h.jj.imp id λ⟨wy,h1,h2⟩=>⟨wy,h1,h2.trans (hk.mono λb hb=>.inr (.inr (.inr (.inr hb))))⟩ }
theorem zzn (h:RelC X C g lk tr stop a w):∀ b,zrG X C lk b->b < w.heap.size:=λb hb=>by
 rcases hb with hb|hb|⟨k,o,hk,hb⟩|⟨p,hp,rfl⟩|hb
 ·exact xaJ hb h.kx.size
 ·exact h.blt b hb
 ·exact (h.sep k o b hk hb).2.1
 ·exact h.marks.lt _ (.inr ⟨p,hp,rfl⟩)
 ·exact xaJ (h.dn b hb) h.nle
theorem zur {l:Nat} (h:RelC X C g lk tr stop a w) (hl:∃ p ∈ X.K,p.1=l):∀ b,zwr l C lk b->¬C.B b/\zrG X C lk b:=λb hb=>by
 rcases hb with ⟨k,o,hk,hf,hb⟩|rfl|hb
 ·exact ⟨(h.sep k o b hk hb).2.2.1 hf,.inr (.inr (.inl ⟨k,o,hk,hb⟩))⟩
 ·exact ⟨((h.marks.at b (.inr hl)).2).2.1,.inr (.inr (.inr (.inl hl)))⟩
 ·exact ⟨(h.ow b hb).1,.inr (.inr (.inr (.inr (h.ow b hb).2)))⟩
theorem zls:∀ {ds:List Deferred},MarksOk w X C lk ds->∀ p ∈ zhA ds++X.K,w.heap[p.1]?=some p.2/\zhd X C lk p.1
 | [],h,p,hp=>h p (by simpa [zhA] using hp)
 | d::ds,h,p,hp=>by
  obtain ⟨⟨r,h1,h2,h0,h3,h4,h5⟩,hr⟩:=h;simp only [zhA,xb4,h1,xaM,xaI] at hp
  rcases hp with rfl|hp
  ·exact ⟨h2,h3⟩
  ·exact zls hr p hp
theorem zhD {w1:World} {C1:Ctx} {l1:Nat->Option LObj}:∀ {ds:List Deferred},MarksOk w0 X C lk ds->(∀ p ∈ zhA ds++X.K,w1.heap[p.1]?=some p.2/\zhd X C1 l1 p.1)->MarksOk w1 X C1 l1 ds
 | [],h,hk=>λp hp=>hk p (by simpa [zhA] using hp)
 | d::ds,h,hk=>by
  obtain ⟨⟨r,h1,h2,h0,h3,h4,h5⟩,hr⟩:=h;have hk':∀ p,p=(r,Obj.deferred (some []))\/p ∈ zhA ds++X.K->w1.heap[p.1]?=some p.2/\zhd X C1 l1 p.1:=λp hp=>hk p (by
   simp only [zhA,xb4,h1,xaM,xaI];exact hp)
  obtain ⟨k1,k2⟩:=hk' _ (.inl rfl);exact ⟨⟨r,h1,k1,h0,k2,h4,h5⟩,zhD hr λp hp=>hk' p (.inr hp)⟩
theorem ziw:∀ {ds:List Deferred},MarksOk w X C lk ds->∀ p ∈ zhA ds++X.K,Mk X ds p.1
 | [],_,p,hp=>.inr ⟨p,by simpa [zhA] using hp,rfl⟩
 | d::ds,h,p,hp=>by
  obtain ⟨⟨r,h1,_⟩,hr⟩:=h;simp only [zhA,xb4,h1,xaM,xaI] at hp
  rcases hp with rfl|hp
  ·exact .inl ⟨d,xaA,h1⟩
  ·exact (ziw hr p hp).imp (λ⟨x,hx,he⟩=>⟨x,xaH _ hx,he⟩) id
def kX (X:Fx) (ds:List Deferred) (l:Nat) (o:Obj):Fx:={ X with K:=(l,o)::(zhA ds++X.K) }
theorem RelC.toK (h : RelC X C g lk tr stop a w) {l : Nat} (hl : w.heap[l]? = some o) (ha : zhd X C lk l) : RelC (kX X a.defers l o) C g lk tr stop { a with defers := [] } w :=
  { kx := h.kx, yy := h.yy, b0 := h.b0, blt := h.blt, bold := h.bold, borg := h.borg, no0 := h.no0, tsz := h.tsz, ngb := h.ngb, env := h.env, envs := h.envs, obj := h.obj, objs := h.objs, sep := h.sep, dis := h.dis, nle := h.nle, dn := h.dn, nn := h.nn, ow := h.ow, oold := h.oold, dold := h.dold, jj := h.jj,
    marks := λp hp => by
      rcases List.mem_cons.1 hp with rfl | hp
      · exact ⟨hl, ha⟩
      · exact zls h.marks p hp }
theorem RelC.ofK {ds : List Deferred} {l : Nat} {tm : Array Value} {C0 : Ctx} {lk0 : Nat -> Option LObj} (h : RelC (kX X ds l o) C g lk tr stop { tmps := tm, defers := [] } w) (hm : MarksOk w0 X C0 lk0 ds) : RelC X C g lk tr stop { tmps := tm, defers := ds } w :=
  { kx := h.kx, yy := h.yy, b0 := h.b0, blt := h.blt, bold := h.bold, borg := h.borg, no0 := h.no0, tsz := h.tsz, ngb := h.ngb, env := h.env, envs := h.envs, obj := h.obj, objs := h.objs, sep := h.sep, dis := h.dis, nle := h.nle, dn := h.dn, nn := h.nn, ow := h.ow, oold := h.oold, dold := h.dold, jj := h.jj,
    marks := zhD hm λp hp => h.marks p (List.mem_cons_of_mem _ hp) }
theorem MarksOk.k:∀ {ds:List Deferred},MarksOk w X C lk ds->KOk w X C lk
 | [],h=>h
 | _::_,h=>MarksOk.k h.2
theorem RelC.setK {l:Nat} {o o':Obj} (h:RelC { X with K:=(l,o)::r } C g lk tr stop a w) (hl:∀ p ∈ r,p.1≠l) (ho:X.w0.heap.size<=l\/X.O0 l) :
  RelC { X with K:=(l,o')::r } C g lk tr stop a (w.putObj l o'):=by
 have hm:=h.marks.k;obtain ⟨hlw,hla⟩:=hm (l,o) xaA;have hoth:∀ b,b≠l->(w.putObj l o').heap[b]?=w.heap[b]?:=λb hb=>World.putObj_heap_other hb
 have hB:∀ b,C.B b->(w.putObj l o').heap[b]?=w.heap[b]?:=λb hb=>hoth b λe=>hla.2.1 (e ▸ hb)
 have hrow:∀ k e sz xs fz,lk k=some (.row e sz xs fz)->∃ xs' fz',lk k=some (.row e sz xs' fz')/\(xs'.length=xs.length->C.cur k=C.cur k)/\xs.length<=xs'.length:=λk e sz xs fz hk=>⟨xs,fz,hk,λ_=>rfl,xap _⟩
 exact {
  kx:=⟨h.kx.os,h.kx.tape,h.kx.output,by simpa using h.kx.size,λb hb hmm=>(hoth b λe=>by
   replace hb:b < X.w0.heap.size:=hb
   subst e
   rcases ho with ho|ho
   ·omega
   ·exact hmm (.inr ho)).trans (h.kx.block b hb hmm)⟩
  yy:=h.yy
  b0:=h.b0
  blt:=λb hb=>by simpa using h.blt b hb
  bold:=h.bold
  borg:=h.borg
  no0:=h.no0
  tsz:=h.tsz
  ngb:=h.ngb
  env:=λt=>RepL.same (C:=C) (C':=C) (λ_ h=>h) rfl hB (λ_ _ _=>rfl) hrow (h.envs t) (h.env t)
  envs:=h.envs
  obj:=λk ob hk=>ObjRel.same (C:=C) (C':=C) (λ_ h=>h) rfl hB (λ_ _ _=>rfl) hrow hk (h.objs k ob hk) rfl (λb hb=>hoth b λe=>hla.2.2.2 k ob hk (e ▸ hb)) (h.obj k ob hk)
  objs:=h.objs
  sep:=λk ob b hk hb=>by simpa using h.sep k ob b hk hb
  dis:=h.dis
  marks:=by
   have hmm:=h.marks
   revert hmm
   generalize a.defers=ds;intro hmm
   induction ds with
   | nil=>
    intro p hp
    rcases xaI.1 hp with rfl|hp
    ·exact ⟨World.putObj_heap_same (Mk.lt_of hlw),hla⟩
    ·obtain ⟨h1,h2⟩:=hm p (xaH _ hp);exact ⟨(hoth _ (hl p hp)).trans h1,h2⟩
   | cons d ds ih=>
    obtain ⟨⟨r',g1,g2,g0,g3,g4,g5⟩,gr⟩:=hmm;exact ⟨⟨r',g1,(hoth r' λe=>g5 (l,o) xaA e.symm).trans g2,g0,g3,g4,λp hp=>by
     rcases xaI.1 hp with rfl|hp
     ·exact g5 (l,o) xaA
     ·exact g5 p (xaH _ hp)⟩,ih gr⟩
  nle:=by simpa using h.nle
  dn:=h.dn
  nn:=h.nn
  ow:=h.ow
  oold:=h.oold
  dold:=h.dold
  jj:=h.jj.imp id λ⟨wy,j1,j2⟩=>⟨wy,j1,j2.trans ⟨rfl,rfl,rfl,by simp,λb hb=>hoth b λe=>hla.2.2.1 (e ▸ hb)⟩⟩ }
def lowE (env:List (Nat × LV)):List (Nat × LV):=env.filter λx=>decide (x.1 < GB)
def ghosts (env:List (Nat × LV)):List (Nat × LV):=env.map λx=>(x.1+GB,x.2)
theorem zc9:∀ (env:List (Nat × LV)) (t:Nat),zS (ghosts env) t=if t < GB then .any else zS env (t - GB)
 | [],t=>by simp [ghosts,zS]
 | (k,v)::r,t=>by
  have ih:=zc9 r t;simp only [ghosts,xaj,zS] at ih ⊢;rw [ih]
  by_cases e:t < GB
  ·rw [if_pos e,if_pos e,if_neg (by omega)]
  ·rw [if_neg e,if_neg e]
   by_cases e2:t=k+GB
   ·rw [if_pos e2,if_pos (by omega)]
   ·rw [if_neg e2,if_neg (by omega)]
theorem znv:∀ (env:List (Nat × LV)) (t:Nat),zS (lowE env) t=if t < GB then zS env t else .any
 | [],t=>by simp [lowE,zS]
 | (k,v)::r,t=>by
  have ih:=znv r t;simp only [lowE,xa2,zS] at ih ⊢
  by_cases hk:k < GB
  ·rw [decide_eq_true hk,if_pos rfl];simp only [zS]
   by_cases e:t=k
   ·subst e;rw [if_pos rfl,if_pos hk,if_pos rfl]
   ·rw [if_neg e,if_neg e];exact ih
  ·rw [decide_eq_false hk];simp only [xaD,if_false];rw [ih]
   by_cases e:t < GB
   ·rw [if_pos e,if_pos e,if_neg (by omega)]
   ·rw [if_neg e,if_neg e]
theorem zhc:∀ (l r:List (Nat × LV)) (t:Nat),(∀ x ∈ l,x.1 < GB)->¬t < GB->zS (l++r) t=zS r t
 | [],r,t,_,_=>rfl
 | (k,v)::l,r,t,h,ht=>by
  have:=h (k,v) xaA;simp only [xaM,zS];rw [if_neg (by simp only at this;omega)]
  exact zhc l r t (λx hx=>h x (xaH _ hx)) ht
theorem zhb:∀ (l r:List (Nat × LV)) (t:Nat),(∀ x ∈ r,¬x.1 < GB)->t < GB->zS (l++r) t=zS l t
 | [],r,t,h,ht=>by
  show zS r t=.any
  induction r with
  | nil=>rfl
  | cons x r ih=>
   obtain ⟨k,v⟩:=x;have:=h (k,v) xaA;simp only [zS];rw [if_neg (by simp only at this;omega)]
   exact ih λx hx=>h x (xaH _ hx)
 | (k,v)::l,r,t,h,ht=>by
  simp only [xaM,zS]
  split
  ·rfl
  ·exact zhb l r t h ht
theorem zhV (env:List (Nat × LV)) (t:Nat):zS (lowE env++ghosts env) t=if t < GB then zS env t else zS env (t - GB):=by
 by_cases e:t < GB
 ·rw [if_pos e,zhb _ _ _ (λx hx=>?_) e,znv,if_pos e]
  obtain ⟨y,_,rfl⟩:=xaN.1 hx;simp
 ·rw [if_neg e,zhc _ _ _ (λx hx=>?_) e,zc9,if_neg e]
  have:=xbs.1 hx;simpa using this.2
def rX (X : Fx) (a : Act) (C : Ctx) (lk : Nat -> Option LObj) (Bi : Nat -> Prop) (l : Nat) (W : World) : Fx :=
  { X with
    w0 := W
    B0 := λb => C.B b \/ Bi b
    B1 := λb => (C.B b \/ Bi b) \/ ∃ k o, lk k = some o /\ o.frozen = false /\ blk C k o = some b
    M := λb => ∃ k o, lk k = some o /\ o.frozen = false /\ blk C k o = some b
    O0 := λb => C.own b \/ b = l
    D0 := C.dep
    gv := λt => zbz X a (t - GB) }
theorem zkN (X:Fx) (a a':Act) (C:Ctx) (lk:Nat->Option LObj) (Bi:Nat->Prop) (l:Nat) (W:World) (t:Nat):zbz (rX X a C lk Bi l W) a' (t+GB)=zbz X a t:=by
 unfold zbz;rw [if_neg (by omega)]
 simp only [rX,zbz,xci]
theorem zjr (X:Fx) (a a':Act) (C:Ctx) (lk:Nat->Option LObj) (Bi:Nat->Prop) (l:Nat) (W:World) (r:List (Nat × Obj)) (t:Nat):zbz { rX X a C lk Bi l W with K:=r } a' (t+GB)=zbz X a t:=by
 unfold zbz;rw [if_neg (by omega)]
 simp only [rX,zbz,xci]
theorem zxQ {l:Nat} (hM:X.MOk) (h:RelC X C g lk tr stop a w):Fx.MOk { rX X a C lk Bi l w with K:=r }:=
 ⟨λb hb=>.inr hb,λb ⟨k,o,hk,hf,hb⟩=>((h.sep k o b hk hb).1 hf).elim (λe=>.inr (xa0 h.no0 e)) (hM.m2 b)⟩
theorem ztu {Bi:Nat->Prop} {l:Nat} {r:Loop} {rest:List (Nat × Obj)} (hy:ts=[]\/(zga P X.y X.Bo X.no X.J X.Jx ts/\zdu X.J X.Jx)) (hM:X.MOk) (h:RelC X C g lk tr stop a w) :
  Cfg.Ok ⟨P,{ rX X a C lk Bi l w with K:=(l,.loop r)::rest },some l,ts⟩ where
 mok:=zxQ hM h
 yok:=by unfold zeU;exact hy
 lok:=λl' hl'=>by injection hl' with hl';subst hl';exact ⟨r,xaA⟩
theorem RelC.enter {l:Nat} (hK:X.K=(l,o)::r) (h:RelC X C (zS env) lk tr stop a w) (hd:a.defers=[]) (hBi:∀ b,Bi b->b < w.heap.size/\¬zwr l C lk b/\(X.Bo b\/X.no<=b)) (hBk:∀ p ∈ X.K,¬Bi p.1) :
  RelC (rX X a C lk Bi l w) { C with B:=λb=>C.B b\/Bi b } (zS (lowE env++ghosts env)) lk tr stop a w:=by
 have hBe:∀ b,C.B b->(λb=>C.B b\/Bi b) b:=λb hb=>.inl hb
 have hrow:∀ k e sz xs fz,lk k=some (.row e sz xs fz)->∃ xs' fz',lk k=some (.row e sz xs' fz')/\(xs'.length=xs.length->C.cur k=C.cur k)/\xs.length<=xs'.length:=λk e sz xs fz hk=>⟨xs,fz,hk,λ_=>rfl,xap _⟩
 have hblk:∀ k o,blk { C with B:=λb=>C.B b\/Bi b } k o=blk C k o:=λk o=>by cases o<;>rfl
 have hm:=h.marks;rw [hd] at hm;exact {
  kx:=KeepX.refl _ _
  yy:=h.yy
  b0:=λb hb=>hb
  blt:=λb hb=>hb.elim (h.blt b) λe=>(hBi b e).1
  bold:=λb hb _=>.inl hb
  borg:=λb hb=>hb.elim (h.borg b) λe=>(hBi b e).2.2
  no0:=xa0 h.no0 h.kx.size
  tsz:=h.tsz
  ngb:=h.ngb
  env:=λt=>by
   rw [zhV]
   by_cases e:t < GB
   ·rw [if_pos e,zbc e];have:=h.env t;rw [zbc e] at this;exact RepL.same (C:=C) (C':={ C with B:=λb=>C.B b\/Bi b }) hBe rfl (λ_ _=>rfl) (λ_ _ _=>rfl) hrow (h.envs t) this
   ·rw [if_neg e];have h1:=zkN X a a C lk Bi l w (t - GB);rw [show t - GB+GB=t by omega] at h1
    rw [h1];exact RepL.same (C:=C) (C':={ C with B:=λb=>C.B b\/Bi b }) hBe rfl (λ_ _=>rfl) (λ_ _ _=>rfl) hrow (h.envs _) (h.env _)
  envs:=λt=>by
   rw [zhV]
   split
   ·exact h.envs t
   ·exact h.envs _
  obj:=λk ob hk=>ObjRel.same (C:=C) (C':={ C with B:=λb=>C.B b\/Bi b }) hBe rfl (λ_ _=>rfl) (λ_ _ _=>rfl) hrow hk (h.objs k ob hk) rfl (λ_ _=>rfl) (h.obj k ob hk)
  objs:=h.objs
  sep:=λk ob b hk hb=>by
   rw [hblk] at hb;obtain ⟨h1,h2,h3,h4⟩:=h.sep k ob b hk hb;exact ⟨λhf=>.inr ⟨k,ob,hk,hf,hb⟩,h2,λhf hbb=>hbb.elim (h3 hf) λe=>(hBi b e).2.1 (.inl ⟨k,ob,hk,hf,hb⟩),λhf=>.inl (h4 hf)⟩
  dis:=λk k' ob ob' b hne hk hk' hb hb'=>h.dis k k' ob ob' b hne hk hk' (by rw [hblk] at hb;exact hb) (by rw [hblk] at hb';exact hb')
  marks:=by
   rw [hd];intro p hp;obtain ⟨h1,h2,h3,h4,h5⟩:=hm p hp;exact ⟨h1,h2,λhbb=>hbb.elim h3 (hBk p hp),h4,λk ob hk=>by rw [hblk];exact h5 k ob hk⟩
  nle:=h.nle
  dn:=h.dn
  nn:=λk ob b hk hb hf=>h.nn k ob b hk (by rw [hblk] at hb;exact hb) hf
  ow:=λb hb=>⟨λhbb=>hbb.elim (h.ow b hb).1 λe=>(hBi b e).2.1 (.inr (.inr hb)),(h.ow b hb).2⟩
  oold:=λb hb=>.inr (.inl hb)
  dold:=λb hb=>.inl hb
  jj:=h.jj }
theorem RelC.leave {l:Nat} {o o':Obj} {Bi:Nat->Prop} {C3:Ctx} {lk3:Nat->Option LObj} {tr3:List (List PV)} {stop3:Bool} {a3:Act} {W3:World} (hM:X.MOk) (hK:X.K=(l,o)::r) (h:RelC X C (zS env) lk tr stop a w) (hd:a.defers=[])
  (hl:X.w0.heap.size<=l) (hBi:∀ b,Bi b->b < X.w0.heap.size->X.B1 b)
  (h3:RelC { rX X a C lk Bi l w with K:=(l,o')::r } C3 (zS (ghosts env)) lk3 tr3 stop3 a3 W3) :
  RelC { X with K:=(l,o')::r } C3 (zS env) lk3 tr3 stop3 a W3/\Rnd (zrG X C lk) (zwr l C lk) Bi (zrG { X with K:=(l,o')::r } C3 lk3) (zwr l C3 lk3) w W3/\(∀ b,C.B b->C3.B b):=by
 have hsz:X.w0.heap.size<=w.heap.size:=h.kx.size;have hKe:∀ b,(∃ p ∈ (l,o')::r,p.1=b)↔∃ p ∈ X.K,p.1=b:=λb=>by rw [hK];simp
 have hM2:∀ b,(∃ k ob,lk k=some ob/\ob.frozen=false/\blk C k ob=some b)->X.w0.heap.size<=b\/X.M b:=λb ⟨k,ob,hk,hf,hb⟩=>(h.sep k ob b hk hb).1 hf
 have hB1:∀ b,C3.B b->b < w.heap.size->C.B b\/Bi b\/∃ k ob,lk k=some ob/\ob.frozen=false/\blk C k ob=some b:=λb hb hlt=>by
  rcases h3.bold b hb hlt with (e|e)|e
  ·exact .inl e
  ·exact .inr (.inl e)
  ·exact .inr (.inr e)
 have hsep3:∀ k ob b,lk3 k=some ob->blk C3 k ob=some b->ob.frozen=false->w.heap.size<=b\/∃ k ob,lk k=some ob/\ob.frozen=false/\blk C k ob=some b:=λk ob b hk hb hf=>(h3.sep k ob b hk hb).1 hf
 have hm3:=h3.marks.k;refine ⟨{
  kx:=⟨h3.kx.os.trans h.kx.os,h3.kx.tape.trans h.kx.tape,h3.kx.output.trans h.kx.output,xa0 hsz h3.kx.size,λb hb hmm=>(h3.kx.block b (xaJ hb hsz) λe=>by
   replace hb:b < X.w0.heap.size:=hb
   rcases e with e|e|e
   ·rcases hM2 b e with e|e
    ·omega
    ·exact hmm (.inl e)
   ·rcases h.oold b e with e|e
    ·omega
    ·exact hmm (.inr e)
   ·omega).trans (h.kx.block b hb hmm)⟩
  yy:=h3.yy
  b0:=λb hb=>h3.b0 b (.inl (h.b0 b hb))
  blt:=h3.blt
  bold:=λb hb hlt=>by
   rcases hB1 b hb (by show b < _;have:b < X.w0.heap.size:=hlt;omega) with e|e|e
   ·exact h.bold b e hlt
   ·exact hBi b e hlt
   ·rcases hM2 b e with e|e
    ·have:b < X.w0.heap.size:=hlt;omega
    ·exact hM.m1 b e
  borg:=h3.borg
  no0:=h.no0
  tsz:=h.tsz
  ngb:=h.ngb
  env:=λt=>by
   have:=h3.env (t+GB);rw [zjr,zc9,if_neg (by omega),xci] at this
   exact this
  envs:=λt=>by
   have:=h3.envs (t+GB);rw [zc9,if_neg (by omega),xci] at this
   exact this
  obj:=h3.obj
  objs:=h3.objs
  sep:=λk ob b hk hb=>by
   obtain ⟨h1,h2,g3,g4⟩:=h3.sep k ob b hk hb;exact ⟨λhf=>(h1 hf).elim (λe=>.inl (xa0 hsz e)) (hM2 b),h2,g3,g4⟩
  dis:=h3.dis
  marks:=by rw [hd];exact hm3
  nle:=h3.nle
  dn:=h3.dn
  nn:=h3.nn
  ow:=h3.ow
  oold:=λb hb=>(h3.oold b hb).elim (λe=>.inl (xa0 hsz e)) λe=>e.elim (h.oold b) λe=>.inl (by subst e;exact hl)
  dold:=λb hb=>(h3.dold b hb).elim (λe=>(h.dold b e).imp id (Or.imp id λe=>h3.b0 b (.inl e))) λe=>e.elim (λe=>.inr (.inl (xa0 hsz e))) λe=>.inr (.inr e)
  jj:=h3.jj },⟨h3.kx.mono λb _ e=>?_,λb hb=>?_,λb hb=>?_,λb hb=>?_,λb hb=>?_⟩,λb hb=>h3.b0 b (.inl hb)⟩
 ·rcases e with e|e|e
  ·exact .inl e
  ·exact .inr (.inr e)
  ·exact .inr (.inl e)
 ·have hobj:∀ b,C3.B b->zrG X C lk b\/w.heap.size<=b\/Bi b:=λb hb=>by
   by_cases hlt:b < w.heap.size
   ·rcases hB1 b hb hlt with e|e|⟨k,ob,h1,h2,h4⟩
    ·exact .inl (.inr (.inl e))
    ·exact .inr (.inr e)
    ·exact .inl (.inr (.inr (.inl ⟨k,ob,h1,h4⟩)))
   ·exact .inr (.inl (by omega))
  rcases hb with hb|hb|⟨k,ob,hk,hb⟩|hb|hb
  ·exact .inl (.inl hb)
  ·exact hobj b hb
  ·cases hf:ob.frozen with
   | true=>exact hobj b ((h3.sep k ob b hk hb).2.2.2 hf)
   | false=>
    rcases hsep3 k ob b hk hb hf with e|⟨k,ob,h1,h2,h4⟩
    ·exact .inr (.inl e)
    ·exact .inl (.inr (.inr (.inl ⟨k,ob,h1,h4⟩)))
  ·exact .inl (.inr (.inr (.inr (.inl ((hKe b).1 hb)))))
  ·rcases h3.dold b hb with e|e|e
   ·exact .inl (.inr (.inr (.inr (.inr e))))
   ·exact .inr (.inl e)
   ·exact hobj b e
 ·rcases hb with hb|hb|⟨k,ob,hk,hb⟩|⟨p,hp,rfl⟩|hb
  ·exact xaJ (xaJ hb hsz) h3.kx.size
  ·exact h3.blt b hb
  ·exact (h3.sep k ob b hk hb).2.1
  ·exact Mk.lt_of (hm3 p hp).1
  ·exact xaJ (h3.dn b hb) h3.nle
 ·rcases hb with ⟨k,ob,hk,hf,hb⟩|rfl|hb
  ·exact (hsep3 k ob b hk hb hf).elim .inr λe=>.inl (.inl e)
  ·exact .inl (.inr (.inl rfl))
  ·exact (h3.oold b hb).elim .inr λe=>e.elim (λe=>.inl (.inr (.inr e))) λe=>.inl (.inr (.inl e))
 ·rcases hb with ⟨k,ob,hk,hf,hb⟩|rfl|hb
  ·exact .inr (.inr (.inl ⟨k,ob,hk,hb⟩))
  ·exact .inr (.inr (.inr (.inl ⟨_,xaA,rfl⟩)))
  ·exact .inr (.inr (.inr (.inr (h3.ow b hb).2)))
end
end Go.Proofs.YtbgckikhhcbmpaaGreat
namespace Go.Proofs.YtbgckikhhcbmpaaGreat
open Go.RowKit
def parEnv:List Nat->List PV->List (Nat × LV)->List (Nat × LV)
 | p::ps,v::vs,env=>parEnv ps vs ((p,.p v)::env)
 | _,_,env=>env
section
variable {X:Fx} {C:Ctx} {g:Nat->LV} {lk:Nat->Option LObj} {tr:List (List PV)} {stop:Bool} {a:Act} {w w':World} {P:Program}
theorem RelC.puts {ds:List Deferred}:∀ (ps:List Nat) (vs:List Value) (t:List PV) (env:List (Nat × LV)) (tm:Array Value),RelC X C (zS env) lk tr stop { tmps:=tm,defers:=ds } w->Reps w C.B vs t->ps.length=t.length->(∀ p ∈ ps,p < X.N) ->
  RelC X C (zS (parEnv ps t env)) lk tr stop { tmps:=(ps.zip vs).foldl (λtm x=>tm.setIfInBounds x.1 x.2) tm,defers:=ds } w
 | [],vs,t,env,tm,h,hv,hl,hp=>by simpa [parEnv] using h
 | p::ps,vs,[],env,tm,h,hv,hl,hp=>by simp at hl
 | p::ps,vs,v::t,env,tm,h,hv,hl,hp=>by
  obtain ⟨u,us,rfl,h1,h2⟩:=hv.cons_inv;have h3:=h.put (d:=p) (v:=u) (q:=.p v) (hp p xaA) (.p h1) (.p v);rw [<-zg9] at h3;exact RelC.puts ps us t _ _ h3 h2 (by simpa using hl) λq hq=>hp q (xaH _ hq)
theorem zoK {ro:Option Nat} (h:RelC X C g lk tr stop a w) (hlok:∀ l,ro=some l->∃ r,(l,Obj.loop r) ∈ X.K) (fn:FuncId) (ps:Array Tmp) (asg body:Code) :
  ∃ (l:Nat) (mark:List Deferred) (W1:World) (db:Nat),(Instr.enterLoop fn a.tmps ps asg body ro).run P w=.ok (l,mark) W1 /\
   W1.heap[l]?=some (.loop { state:=.ready,pending:=none,fn,tmps:=a.tmps,params:=ps,assign:=asg,body,defers:=db })/\RelC X C g lk tr stop { a with defers:=mark++a.defers } W1/\zhd X C lk l/\w.heap.size<=l/\(∀ p ∈ zhA (mark++a.defers)++X.K,p.1≠l)/\Below w.heap.size w W1:=by
 have hapart:∀ r,w.heap.size<=r->zhd X C lk r:=λr hr=>⟨by have:=h.no0;have:=h.kx.size;omega,λhb=>by have:=h.blt r hb;omega,λhd=>by have:=h.dn r hd;have:=h.nle;omega,λk o hk hb=>by have:=(h.sep k o r hk hb).2.1;omega⟩
 cases ro with
 | none=>
  have hb:Below w.heap.size w ((w.alloc (.deferred (some []))).alloc (.loop { state:=.ready,pending:=none,fn,tmps:=a.tmps,params:=ps,assign:=asg,body,defers:=w.heap.size })):=
   ((Below.refl _ w).alloc (xap _) _).alloc (by simp) _
  have h1:=h.grow hb C.B (λ_ h=>h) (λb hb=>.inl hb)
  have hD:((w.alloc (.deferred (some []))).alloc (.loop { state:=.ready,pending:=none,fn,tmps:=a.tmps,params:=ps,assign:=asg,body,defers:=w.heap.size })).heap[w.heap.size]?=some (.deferred (some [])):=
   (Below.heap_alloc _ _ _ (by simp)).trans (World.alloc_heap_new w _)
  refine ⟨w.heap.size+1,[{ target:=.collected w.heap.size,args:=#[] }],_,w.heap.size,run_enterLoop_outer _ _ _ _ _,?_,{ h1 with marks:=⟨⟨w.heap.size,rfl,hD,h.kx.size,hapart _ (xap _),λd hd he=>?_,λp hp he=>?_⟩,h1.marks⟩ },hapart _ (by omega),by omega,λp hp he=>?_,hb⟩
  ·have:=World.alloc_heap_new (w.alloc (.deferred (some []))) (.loop { state:=.ready,pending:=none,fn,tmps:=a.tmps,params:=ps,assign:=asg,body,defers:=w.heap.size })
   rwa [World.size_alloc] at this
  ·have:=h.marks.lt _ (.inl ⟨d,hd,he⟩);omega
  ·have:=h.marks.lt p.1 (.inr ⟨p,hp,rfl⟩);omega
  ·have:p ∈ (w.heap.size,Obj.deferred (some []))::(zhA a.defers++X.K):=by
    simpa [zhA] using hp
   rcases xaI.1 this with rfl|hp
   ·simp only at he;omega
   ·have:=h.marks.lt _ (ziw h.marks p hp);omega
 | some l0=>
  obtain ⟨r0,hr0⟩:=hlok l0 rfl;have hl0:=(zls h.marks _ (xbc _ hr0)).1;have hb:Below w.heap.size w (w.alloc (.loop { state:=.ready,pending:=none,fn,tmps:=a.tmps,params:=ps,assign:=asg,body,defers:=r0.defers })):=(Below.refl _ w).alloc (xap _) _;have h1:=h.grow hb C.B (λ_ h=>h) (λb hb=>.inl hb)
  refine ⟨w.heap.size,[],_,r0.defers,run_enterLoop_inner hl0 _ _ _ _ _,World.alloc_heap_new w _,{ h1 with marks:=h1.marks },hapart _ (xap _),xap _,λp hp he=>?_,hb⟩
  have:=h.marks.lt _ (ziw h.marks p hp);omega
attribute [local irreducible] zbz GB
def asgK (K:St->Prop):zam
 | .normal,s=>K s
 | _,_=>False
def roundI (env:List (Nat × LV)) (nx:St) (okn:Prop) (Q:zam):zam
 | .normal,s=>Cov s nx/\okn
 | .exit id,s=>Cov s ⟨ghosts env,s.obj,s.tr,s.stop⟩/\Q (.exit id) ⟨env,s.obj,s.tr,s.stop⟩
 | .ret,s=>Cov s ⟨ghosts env,s.obj,s.tr,s.stop⟩/\Q .ret ⟨env,s.obj,s.tr,s.stop⟩
def roundK (env:List (Nat × LV)) (nx:St) (Q:zam):zam:=roundI env nx True Q
theorem zb7 {X:Fx} {ro:Option Nat} {ts0:List (List PV)} {s:St} {Q:zam} {fop:AOpd} {params:List Nat} {asg body:AC} {gf:Nat} {caps:List PV} {ts:List (List PV)} (hf:fop.ev s=.p (.fn (.func gf) [] caps)) (hit:zsz P gf caps ts)
  (hlen:∀ t ∈ ts,t.length=params.length) (hpar:∀ p ∈ params,p < X.N) (env:List (Nat × LV)) (obj:Nat→List (Nat × LObj)) (T:Nat→List (List PV)) (ok:Nat→Prop) (h0:Cov s ⟨env,obj 0,T 0,false⟩) (hok0:ok 0)
  (hround:∀ (k:Nat) (t:List PV),ts[k]?=some t→ok k→∀ (X':Fx) (ro':Option Nat),X'.N=X.N→Run ⟨P,X',ro',ts0⟩ asg ⟨parEnv params t (lowE env++ghosts env),obj k,T k,false⟩
   (asgK fun s1=>∀ (X':Fx),X'.N=X.N→Run ⟨P,X',ro',ts0⟩ body s1 (roundI env ⟨ghosts env,obj (k+1),T (k+1),false⟩ (ok (k+1)) Q)))
  (hend:ok ts.length→Q .normal ⟨env,obj ts.length,T ts.length,false⟩):Run ⟨P,X,ro,ts0⟩ (.rfunc fop params asg body) s Q:=by
 intro hG code hc C a w hr
 cases code<;>simp only [zI,xab] at hc
 case rangeFunc f0 ps asg0 body0=>
  split at hc
  case h_2=>cases hc
  rename_i f' x' y' hf0 h1 h2
  injection hc with hc;injection hc with e0 e1 e2 e3;subst e0;subst e1;subst e2;subst e3
  have hv:=(zaA hr rfl hf0).1
  rw [hf] at hv
  obtain ⟨fs,cs,hfe,hfs,hcs⟩:=zp7 (ze hv)
  have hfs0:fs=#[]:=by simpa using hfs.nil_inv
  subst hfs0
  have hr0:RelC X C (zS env) (zm (obj 0)) (T 0) false a w:=zdt h0 hr
  refine wpIn_rangeFunc (F:=za4 ro) (n:=0) ?_
  intro fn hfn
  obtain ⟨l,mark,W1,db,henter,hl,R1,hap,hlw,hKl,hbel⟩:=zoK (P:=P) hr0 hG.lok fn ps asg0 body0
  obtain ⟨rec,hrec⟩:∃ rec:LoopState→Option Code→Loop,rec=fun st pe=>{ state:=st,pending:=pe,fn,tmps:=a.tmps,params:=ps,assign:=asg0,body:=body0,defers:=db }:=⟨_,rfl⟩
  obtain ⟨ds,hds⟩:∃ ds,ds=mark++a.defers:=⟨_,rfl⟩
  rw [←hds] at R1 hKl
  have hl1:W1.heap[l]?=some (.loop (rec .ready none)):=by rw [hrec];exact hl
  have hpend:∀ st pe,(rec st pe).pending=pe:=fun st pe=>by rw [hrec]
  have hbusy:∀ (jump:Option Code),({ ({ rec .ready none with state:=.busy }:Loop) with state:=if jump.isNone then .ready else .done,pending:=jump }:Loop)=rec (if jump.isNone then .ready else .done) jump:=fun jump=>by rw [hrec]
  let XK:Obj→Fx:=fun o=>kX X ds l o
  let a1:Act:={ tmps:=a.tmps,defers:=[] }
  have R1K:RelC (XK (.loop (rec .ready none))) C (zS env) (zm (obj 0)) (T 0) false a1 W1:=R1.toK hl1 hap
  have hlX:X.w0.heap.size≤l:=xa0 hr0.kx.size hlw
  have hMK:∀ o,(XK o).MOk:=fun o=>⟨hG.mok.m1,hG.mok.m2⟩
  let J:List (List PV)→(Nat→Prop)→(Nat→Prop)→World→Prop:=fun pre D O W=>∃ k C',pre=ts.take k∧(k≤ts.length∧ok k)∧RelC (XK (.loop (rec .ready none))) C' (zS env) (zm (obj k)) (T k) false a1 W∧D=zrG (XK (.loop (rec .ready none))) C' (zm (obj k))∧O=zwr l C' (zm (obj k))∧(∀ b,C.B b→C'.B b)
  let Jx:List (List PV)→(Nat→Prop)→World→Prop:=fun pre D W=>∃ (c:Code) (C':Ctx) (s':St),RelC (XK (.loop (rec .done (some c)))) C' (zS env) s'.look s'.tr s'.stop a1 W∧D=zrG (XK (.loop (rec .done (some c)))) C' s'.look ∧
   ((c=.ret∧Q .ret ⟨env,s'.obj,s'.tr,s'.stop⟩)∨∃ id,c=.exit id∧Q (.exit id) ⟨env,s'.obj,s'.tr,s'.stop⟩)
  have hcl:zdu J Jx:=⟨fun t D O w w' ⟨k,C',g1,g2,g3,g4,g5,g6⟩ hk=>⟨k,C',g1,g2,g3.kept rfl (by rw [←g4];exact hk),g4,g5,g6⟩,
   fun t D w w' ⟨c,C',s',g1,g2,g3⟩ hk=>⟨c,C',s',g1.kept rfl (by rw [←g2];exact hk),g2,g3⟩⟩
  have hK1:∀ b,(∃ p ∈ (XK (.loop (rec .ready none))).K,p.1=b)→b < W1.heap.size∧¬C.B b:=fun b hb=>by
   have:=R1K.marks.at b (.inr hb)
   exact ⟨this.1,this.2.2.1⟩
  have hres:(resolve a.eval (rangeCall f0 l) 0).run P W1=.ok { target:=.fn (.func gf) cs,args:=#[.func (.yield l) #[] #[]] } W1:=by
   have he:a.eval (.const (.func (.yield l) #[] #[]))=.func (.yield l) #[] #[]:=rfl
   simp [resolve,rangeCall,hfe,Deferred.ofValue,he]
  obtain ⟨⟨gfn,gc,hg1,hg2,hg3⟩,hit⟩:=hit
  have hinv:(invoke (.fn (.func gf) cs) #[.func (.yield l) #[] #[]]).run P W1=.ok (.enter gf (.func (.yield l) #[] #[]::cs.toList).toArray) W1:=by
   have h2' : ¬ gfn.name = "runtime.NumGoroutine" := by simpa using hg2
   simp [invoke,callFunc,hg1,h2',hg3]
  refine ⟨l,mark,W1,_,W1,gf,_,W1,henter,hres,fun _ _=>trivial,hinv,fun h=>by simp [za4,Fence.wide] at h,?_⟩
  have hBlt:∀ b,C.B b→b < W1.heap.size:=fun b hb=>R1.blt b hb
  have hcall:=hit W1 C.B l cs.toList J Jx (zrG (XK (.loop (rec .ready none))) C (zm (obj 0))) (zwr l C (zm (obj 0))) hBlt (hcs.mono (fun _ h=>h) fun b hb=>hbel.block b (hr0.blt b hb))
   (zzn R1K) (zur R1K ⟨_,xaA,rfl⟩) hcl ?_ ⟨0,C,by simp,⟨xbk _,hok0⟩,R1K,rfl,rfl,fun _ h=>h⟩
  ·-- behind the iterator
   have h4:CallsIn Fence.wide (0 - 1) P gf (.func (.yield l) #[] #[]::cs.toList).toArray W1 _:=callsIn_wide.2 hcall
   have hKne:∀ p ∈ zhA ds++X.K,p.1≠l:=hKl
   have h5:=CallsIn.mono h4 (R':=rangePost (za4 ro) 0 P l (QQ ⟨P,X,ro,ts0⟩ Q) { a with defers:=ds }) ?_
   ·rw [←hds];exact h5
   rintro e w' ⟨⟨v,rfl⟩,(⟨D',O',k,C',g1,g2,g3,_,_,_⟩|⟨pre,D',c,C',s',g1,_,g3⟩)⟩
   ·have hk:k=ts.length:=by
     have:=congrArg List.length g1
     rw [xan] at this
     have:=g2.1
     omega
    subst hk
    have hlw':=((g3.marks:KOk _ _ _ _) (l,_) xaA).1
    have hend2:=run_endLoop (P:=P) hlw' (by rw [hrec];simp)
    rw [hpend] at hend2
    refine ⟨none,_,hend2,?_⟩
    exact ⟨⟨env,obj ts.length,T ts.length,false⟩,C',RelC.ofK (g3.setK hKne (.inl hlX)) R1.marks,hend g2.2⟩
   ·have hlw':=((g1.marks:KOk _ _ _ _) (l,_) xaA).1
    have hend2:=run_endLoop (P:=P) hlw' (by rw [hrec];simp)
    rw [hpend] at hend2
    refine ⟨some c,_,hend2,?_⟩
    rcases g3 with ⟨rfl,hq⟩|⟨id,rfl,hq⟩
    ·exact wpIn_ret ⟨⟨env,s'.obj,s'.tr,s'.stop⟩,C',RelC.ofK (g1.setK hKne (.inl hlX)) R1.marks,hq⟩
    ·exact wpIn_exit ⟨⟨env,s'.obj,s'.tr,s'.stop⟩,C',RelC.ofK (g1.setK hKne (.inl hlX)) R1.marks,hq⟩
  rintro pre t post D O W Bi args hts ⟨k,C',rfl,⟨hk,hokk⟩,R,rfl,rfl,hCB⟩ hBi hargs
  have htk:ts[k]?=some t:=by
   have:(ts.take k).length=k:=by rw [xan];omega
   rw [hts,xaB (by omega),this,xcm]
   rfl
  have htl:t.length=ps.toList.length:=hlen t (xae htk)
  have hlW:=((R.marks:KOk _ _ _ _) (l,_) xaA).1
  have hy:=run_yield (P:=P) (args:=args.toArray) hlW (by rw [hrec];simp;rw [hargs.1,htl];simp)
  have hBo:∀ b,Bi b→X.Bo b∨X.no≤b:=fun b hb=>(hBi b hb).2.2.elim (R1.borg b) fun e=>.inr (by have:=R1.no0;have:=R1.kx.size;omega)
  have hBk:∀ p ∈ (XK (.loop (rec .ready none))).K,¬Bi p.1:=fun p hp hb=>by
   obtain ⟨k1,k2⟩:=hK1 p.1 ⟨p,hp,rfl⟩
   exact (hBi _ hb).2.2.elim k2 fun e=>by omega
  have E:=R.enter (X:=XK (.loop (rec .ready none))) (Bi:=Bi) rfl rfl (fun b hb=>⟨(hBi b hb).1,(hBi b hb).2.1,hBo b hb⟩) hBk
  have E2:=RelC.puts (ds:=[]) ps.toList args t _ _ E (hargs.mono (fun b hb=>.inr hb) fun _ _=>rfl) htl.symm (fun p hp=>hpar p hp)
  have hfold:((rec .ready none).params.zip args.toArray).foldl (fun tmps (t,a)=>tmps.setIfInBounds t a) (rec .ready none).tmps=(ps.toList.zip args).foldl (fun tm x=>tm.setIfInBounds x.1 x.2) a.tmps:=by
   rw [hrec,←Array.foldl_toList,Array.toList_zip]
  have hr1:(rec .ready none).fn=fn:=by rw [hrec]
  have hr2:(rec .ready none).assign=asg0:=by rw [hrec]
  have hr3:(rec .ready none).body=body0:=by rw [hrec]
  have hy2:(Instr.yield l args.toArray).run P W=.ok (.round l fn ((ps.toList.zip args).foldl (fun tm x=>tm.setIfInBounds x.1 x.2) a.tmps) asg0 body0) W:=by
   rw [←hfold,←hr1,←hr2,←hr3];exact hy
  refine ⟨fn,_,asg0,body0,hy2,roundIn_of_wpIn trivial ?_⟩
  have hyok:ts0=[]∨(zga P X.y X.Bo X.no X.J X.Jx ts0∧zdu X.J X.Jx):=hG.yok
  have hGr:∀ r:Loop,Cfg.Ok ⟨P,{ rX (XK (.loop (rec .ready none))) a1 C' (zm (obj k)) Bi l W with K:=(l,.loop r)::(zhA ds++X.K) },some l,ts0⟩:=fun r=>ztu (X:=XK (.loop (rec .ready none))) hyok (hMK _) R
  have hA:=hround k t htk hokk { rX (XK (.loop (rec .ready none))) a1 C' (zm (obj k)) Bi l W with K:=(l,.loop (rec .ready none))::(zhA ds++X.K) } (some l) rfl (hGr _) asg0 h1 _ { tmps:=(ps.toList.zip args).foldl (fun tm x=>tm.setIfInBounds x.1 x.2) a.tmps,defers:=[] } W E2
  have hfin:∀ (jump:Option Code) (C3:Ctx) (lk3:Nat→Option LObj) (tr3:List (List PV)) (st3:Bool) (a3:Act) (W3:World),RelC { rX (XK (.loop (rec .ready none))) a1 C' (zm (obj k)) Bi l W with K:=(l,.loop { rec .ready none with state:=.busy })::(zhA ds++X.K) } C3 (zS (ghosts env)) lk3 tr3 st3 a3 W3 →
    ∃ W4,(Instr.endRound l jump).run P W3=.ok (.bool jump.isNone) W4∧RelC (XK (.loop (rec (if jump.isNone then .ready else .done) jump))) C3 (zS env) lk3 tr3 st3 a1 W4 ∧
     Rnd (zrG (XK (.loop (rec .ready none))) C' (zm (obj k))) (zwr l C' (zm (obj k))) Bi (zrG (XK (.loop (rec (if jump.isNone then .ready else .done) jump))) C3 lk3) (zwr l C3 lk3) W W4∧(∀ b,C'.B b→C3.B b):=fun jump C3 lk3 tr3 st3 a3 W3 h3=>by
   have hm3:=h3.marks.k
   have hl3:=(hm3 (l,_) xaA).1
   have hend3:=run_endRound (P:=P) jump hl3
   have h4:=h3.setK (o':=.loop (rec (if jump.isNone then .ready else .done) jump)) hKl (.inr (.inr rfl))
   obtain ⟨k1,k2,k3⟩:=RelC.leave (X:=XK (.loop (rec .ready none))) (hMK _) rfl R rfl hlX (fun b hb hlt=>(hBi b hb).2.2.elim (fun e=>R1.bold b e hlt) fun e=>by have:=R1.kx.size;have:b < X.w0.heap.size:=hlt;omega) h4
   rw [hbusy] at hend3
   exact ⟨_,hend3,k1,k2,k3⟩
  refine wpIn_mono (F:=za4 (some l)) hA ?_
  rintro e aa Wa ⟨sa,Ca,hra,hqa⟩
  cases e with
  | normal=>
   have hla:=(hra.marks.k (l,_) xaA).1
   refine ⟨_,run_beginRound hla (by rw [hrec]),?_⟩
   have hrb:=RelC.setK (X:=rX (XK (.loop (rec .ready none))) a1 C' (zm (obj k)) Bi l W) (o:=.loop (rec .ready none)) (r:=zhA ds++X.K) hra (o':=.loop { rec .ready none with state:=.busy }) hKl (.inr (.inr rfl))
   have hBod:=hqa { rX (XK (.loop (rec .ready none))) a1 C' (zm (obj k)) Bi l W with K:=(l,.loop { rec .ready none with state:=.busy })::(zhA ds++X.K) } rfl (hGr _) body0 h2 _ aa _ hrb
   refine wpIn_mono (F:=za4 (some l)) hBod ?_
   rintro e a3 W3 ⟨s3,C3,h3,hq3⟩
   cases e with
   | normal=>
    have h3':RelC _ C3 (zS (ghosts env)) (zm (obj (k+1))) (T (k+1)) false a3 W3:=zdt hq3.1 h3
    obtain ⟨W4,g1,g2,g3,g4⟩:=hfin none C3 _ _ _ a3 W3 h3'
    refine ⟨_,W4,g1,true,rfl,?_⟩
    rw [if_pos rfl]
    have hk1:k+1≤ts.length:=(xaa.1 htk).1
    exact ⟨_,_,⟨k+1,C3,by rw [xaW,htk];rfl,⟨hk1,hq3.2⟩,g2,rfl,rfl,fun b hb=>g4 b (hCB b hb)⟩,g3⟩
   | exit id=>
    have h3':RelC _ C3 (zS (ghosts env)) s3.look s3.tr s3.stop a3 W3:=zdt hq3.1 h3
    obtain ⟨W4,g1,g2,g3,g4⟩:=hfin (some (.exit id)) C3 _ _ _ a3 W3 h3'
    refine ⟨_,W4,g1,false,rfl,?_⟩
    rw [if_neg (by simp)]
    exact ⟨_,⟨.exit id,C3,s3,g2,rfl,.inr ⟨id,rfl,hq3.2⟩⟩,⟨g3.kx,g3.d1,g3.d2,fun _ h=>h.elim,fun _ h=>h.elim⟩⟩
   | ret=>
    have h3':RelC _ C3 (zS (ghosts env)) s3.look s3.tr s3.stop a3 W3:=zdt hq3.1 h3
    obtain ⟨W4,g1,g2,g3,g4⟩:=hfin (some .ret) C3 _ _ _ a3 W3 h3'
    refine ⟨_,W4,g1,false,rfl,?_⟩
    rw [if_neg (by simp)]
    exact ⟨_,⟨.ret,C3,s3,g2,rfl,.inl ⟨rfl,hq3.2⟩⟩,⟨g3.kx,g3.d1,g3.d2,fun _ h=>h.elim,fun _ h=>h.elim⟩⟩
   | goto l=>exact hq3.elim
   | panic c=>exact hq3.elim
   | outgrown=>exact hq3.elim
  | exit id=>exact hqa.elim
  | ret=>exact hqa.elim
  | goto l=>exact hqa.elim
  | panic c=>exact hqa.elim
  | outgrown=>exact hqa.elim
 all_goals first|(cases hc;done)|(obtain ⟨_,_,hc⟩:=hc;cases hc;done)|(split at hc<;>cases hc;done)
theorem zcb {X:Fx} {ro:Option Nat} {ts0:List (List PV)} {s:St} {Q:zam} {fop:AOpd} {params:List Nat} {asg body:AC} {gf:Nat} {caps:List PV} {ts:List (List PV)} (hf:fop.ev s=.p (.fn (.func gf) [] caps)) (hit:zsz P gf caps ts)
  (hlen:∀ t ∈ ts,t.length=params.length) (hpar:∀ p ∈ params,p < X.N) (env:List (Nat × LV)) (obj:Nat->List (Nat × LObj)) (T:Nat->List (List PV)) (h0:Cov s ⟨env,obj 0,T 0,false⟩)
  (hround:∀ (k:Nat) (t:List PV),ts[k]?=some t->∀ (X':Fx) (ro':Option Nat),X'.N=X.N->Run ⟨P,X',ro',ts0⟩ asg ⟨parEnv params t (lowE env++ghosts env),obj k,T k,false⟩
   (asgK λs1=>∀ (X':Fx),X'.N=X.N->Run ⟨P,X',ro',ts0⟩ body s1 (roundK env ⟨ghosts env,obj (k+1),T (k+1),false⟩ Q)))
  (hend:Q .normal ⟨env,obj ts.length,T ts.length,false⟩):Run ⟨P,X,ro,ts0⟩ (.rfunc fop params asg body) s Q:=
 zb7 hf hit hlen hpar env obj T (λ_=>True) h0 trivial (λk t ht _=>hround k t ht) λ_=>hend
end
end Go.Proofs.YtbgckikhhcbmpaaGreat
namespace Go.Proofs.YtbgckikhhcbmpaaGreat
open Go.RowKit
theorem aI {a b:Prop} (x:a) (y:b):a/\b:=⟨x,y⟩
theorem ztK (look:Nat->Option LObj) (k o:Nat):LV.known look (LV.lp k o)=True:=rfl
theorem ztM (look:Nat->Option LObj) (k:Nat):LV.known look (LV.it k)=True:=rfl
theorem ztL (look:Nat->Option LObj) (k:Nat):LV.known look (LV.lm k)=True:=rfl
theorem ztN (look:Nat->Option LObj) (f:Fn) (a b:List LV):LV.known look (LV.fn f a b)=True:=rfl
theorem zql (look:Nat->Option LObj) (cs:List LV):LV.known look (LV.agg cs)=True:=rfl
theorem zlc (look:Nat->Option LObj) :LV.known look (LV.yield)=True:=rfl
theorem ztQ (ys:List PV):eqCells [] ys=true:=rfl
theorem zxR {α:Type} (cs:List α) (off:Nat):updL cs off []=cs.take off++[]++cs.drop (off+([]:List α).length):=rfl
theorem zxS {α:Type} (cs:List α) (off:Nat) (a b:α) (r:List α):updL cs off (a::b::r)=cs.take off++(a::b::r)++cs.drop (off+(a::b::r).length):=rfl
theorem ztO (cs vs:List PV):fillP cs [] vs=cs:=by cases vs<;>simp [fillP]
theorem ztP (xs vs:List PV):fillE xs [] vs=xs:=by cases vs<;>simp [fillE]
theorem zAV (s:ByteArray) (p:Nat):(LObj.sit s p).freeze=.sit s p:=rfl
theorem zxV (G:Cfg) (y:AC) (Q:zam) (s:St):seqK G y Q .ret s=Q .ret s:=rfl
theorem zxW (G:Cfg) (y:AC) (Q:zam) (i:Nat) (s:St):seqK G y Q (.exit i) s=Q (.exit i) s:=rfl
theorem ztI {κ:Type} (inv:κ->St) (ok:κ->Prop) (μ:κ->Nat) (k:κ) (Q:zam) (s:St):loopK inv ok μ k Q .ret s=Q .ret s:=rfl
theorem ztJ {κ:Type} (inv:κ->St) (ok:κ->Prop) (μ:κ->Nat) (k:κ) (Q:zam) (i:Nat) (s:St):loopK inv ok μ k Q (.exit i) s=Q (.exit i) s:=rfl
theorem zxT:tupOf []=.tup []:=rfl
theorem zxU (a b:PV) (r:List PV):tupOf (a::b::r)=.tup (a::b::r):=rfl
theorem zxZ:boxPV []=.agg []:=rfl
theorem zx0 (a b:PV) (r:List PV):boxPV (a::b::r)=.agg (a::b::r):=rfl
theorem zAN (look:Nat->Option LObj) (k:Nat) (e:TypeId) (sz:Nat) (xs:List PV) (f:Bool) (r:List (Nat × LObj)):scObj look ((k,.row e sz xs f)::r)=scObj look r:=rfl
theorem zAM (look:Nat->Option LObj) (k:Nat) (s:ByteArray) (p:Nat) (r:List (Nat × LObj)):scObj look ((k,.sit s p)::r)=scObj look r:=rfl
theorem zAW (a:List (PV × PV)) (c:Option (PV × PV)):(LObj.mit a c).freeze=.mit a c:=rfl
theorem zAK (look:Nat->Option LObj) (k:Nat) (a:List (PV × PV)) (c:Option (PV × PV)) (r:List (Nat × LObj)):scObj look ((k,.mit a c)::r)=scObj look r:=rfl
theorem zAQ (look:Nat->Option LObj) (a:List (PV × PV)) (c:Option (PV × PV)):lpK look (some (.mit a c))=[]:=rfl
theorem zAL (look:Nat->Option LObj) (k:Nat) (es:List (PV × PV)) (f:Bool) (r:List (Nat × LObj)):scObj look ((k,.mp es f)::r)=scObj look r:=rfl
theorem zAP (f:Fn) (a b:List LV) (y:Option (List PV)):mfK f a b none y=some (True,Eff.ofV (LV.fn f a b)):=rfl
theorem zAO (f:Fn) (a b:List LV) (x:List PV):mfK f a b (some x) none=some (True,Eff.ofV (LV.fn f a b)):=rfl
theorem zAU (look:Nat->Option LObj):lpK look none=[]:=rfl
theorem zAT (look:Nat->Option LObj) (e:TypeId) (sz:Nat) (xs:List PV) (f:Bool):lpK look (some (.row e sz xs f))=[]:=rfl
theorem zAS (look:Nat->Option LObj) (s:ByteArray) (p:Nat):lpK look (some (.sit s p))=[]:=rfl
theorem zAR (look:Nat->Option LObj) (es:List (PV × PV)) (f:Bool):lpK look (some (.mp es f))=[]:=rfl
theorem zxY (vs:List PV) (e:List (Nat × LV)):parEnv [] vs e=e:=rfl
theorem zxX (p:Nat) (ps:List Nat) (e:List (Nat × LV)):parEnv (p::ps) [] e=e:=rfl
theorem zAX (K:St->Prop) (s:St):asgK K .ret s=False:=rfl
theorem zAY (K:St->Prop) (i:Nat) (s:St):asgK K (.exit i) s=False:=rfl
theorem zlb  (a0:List PV) (l:List Nat):rdM (.alloc a0) l=l:=rfl
theorem zqi  (l:List Nat):rdM (.box) l=l:=rfl
theorem zla  (a0:List PV) (a1:List (Nat × Nat)) (l:List Nat):rdM (.build a0 a1) l=l:=rfl
theorem zjM  (a0:Nat) (a1:Nat) (a2:PV) (a3:Nat) (a4:List Nat) (l:List Nat):rdM (.bslice a0 a1 a2 a3 a4) l=l:=rfl
theorem zn2  (a0:Nat) (a1:Bool) (l:List Nat):rdM (.load a0 a1) l=l:=rfl
theorem zk4  (a0:Nat) (l:List Nat):rdM (.store a0) l=l:=rfl
theorem zjL  (l:List Nat):rdM (.nilchk) l=l:=rfl
theorem zqj  (a0:BinOp) (l:List Nat):rdM (.bin a0) l=l:=rfl
theorem ztH  (a0:Bool) (a1:List Nat) (a2:Bool) (l:List Nat):rdM (.eq a0 a1 a2) l=l:=rfl
theorem zqb  (l:List Nat):rdM (.not) l=l:=rfl
theorem zqc  (l:List Nat):rdM (.neg) l=l:=rfl
theorem zqg  (a0:IntKind) (l:List Nat):rdM (.cvt a0) l=l:=rfl
theorem zqh  (l:List Nat):rdM (.cvs) l=l:=rfl
theorem znZ  (a0:Fn) (a1:Nat) (l:List Nat):rdM (.mkfn a0 a1) l=l:=rfl
theorem zjJ  (a0:Bool) (a1:Bool) (l:List Nat):rdM (.sliceS a0 a1) l=l:=rfl
theorem zjK  (a0:Nat) (a1:Bool) (a2:Bool) (l:List Nat):rdM (.sliceL a0 a1 a2) l=l:=rfl
theorem zn6  (a0:Nat) (l:List Nat):rdM (.fadr a0) l=l:=rfl
theorem zqe  (a0:Nat) (a1:Nat) (a2:Bool) (l:List Nat):rdM (.fld a0 a1 a2) l=l:=rfl
theorem zn5  (a0:Nat) (a1:Nat) (a2:Bool) (l:List Nat):rdM (.idxA a0 a1 a2) l=l:=rfl
theorem zn4  (l:List Nat):rdM (.idxS) l=l:=rfl
theorem zk7  (a0:Nat) (l:List Nat):rdM (.iadrS a0) l=l:=rfl
theorem zk8  (a0:Nat) (a1:Nat) (l:List Nat):rdM (.iadrA a0 a1) l=l:=rfl
theorem zqd  (a0:Bool) (l:List Nat):rdM (.len a0) l=l:=rfl
theorem zqk  (a0:Nat) (a1:Nat) (a2:Nat) (l:List Nat):rdM (.app a0 a1 a2) l=l:=rfl
theorem ztF  (l:List Nat):rdM (.mx) l=l:=rfl
theorem ztG  (l:List Nat):rdM (.mn) l=l:=rfl
theorem zqf  (a0:Nat) (l:List Nat):rdM (.ext a0) l=l:=rfl
theorem zk5  (l:List Nat):rdM (.range) l=l:=rfl
theorem znX  (l:List Nat):rdM (.next) l=l:=rfl
theorem zia  (a0:Nat) (a1:Nat) (a2:Nat) (a3:PV) (l:List Nat):rdM (.mkslice a0 a1 a2 a3) l=l:=rfl
theorem zn7  (a0:Nat) (l:List Nat):rdM (.copy a0) l=l:=rfl
theorem zk6  (l:List Nat):rdM (.mkmap) l=l:=rfl
theorem zn3  (a0:List Nat) (a1:Bool) (a2:PV) (a3:Bool) (l:List Nat):rdM (.lkup a0 a1 a2 a3) l=l:=rfl
theorem znY  (a0:List Nat) (a1:Bool) (l:List Nat):rdM (.mset a0 a1) l=l:=rfl
theorem zn1  (a0:List Nat) (a1:Bool) (a2:PV) (l:List Nat):rdM (.ment a0 a1 a2) l=l:=rfl
theorem zn0  (l:List Nat):rdM (.mest) l=l:=rfl
theorem zqa (n:Nat) (l:List Nat):rdM (.slA n) l=l:=rfl
theorem zn8  (a0:Nat) (l:List Nat):rdM (.call a0) l=l:=rfl
theorem zk9  (l:List Nat):rdM (.callv) l=l:=rfl
def q0:=aI (aI (aI (aI (aI @LV.known.eq_1 @LV.known.eq_2) (aI @LV.known.eq_3 (aI @LV.known.eq_4 @LV.known.eq_5))) (aI (aI @loadOk.eq_1 @loadV.eq_1) (aI @eqOk.eq_1 (aI @eqOk.eq_2 @eqOk.eq_3)))) (aI (aI (aI @eqPV.eq_1 @eqPV.eq_2) (aI @eqPV.eq_3 (aI @eqCells.eq_1 @eqCellsOk.eq_1))) (aI (aI @eqCellsOk.eq_2 @packL.eq_1) (aI @oneL.eq_1 (aI @oneL.eq_2 @oneL.eq_3))))) (aI (aI (aI (aI @oneL.eq_4 @oneL.eq_5) (aI @oneL.eq_6 (aI @oneL.eq_7 @oneL.eq_8))) (aI (aI @updL.eq_1 @fillP.eq_1) (aI @fillOk.eq_1 (aI @fillOk.eq_2 @fillE.eq_1)))) (aI (aI (aI @fillEOk.eq_1 @fillEOk.eq_2) (aI @oneAll.eq_1 (aI @List.all_map.{0,0} @LObj.freeze.eq_1))) (aI (aI @LObj.freeze.eq_2 @LObj.freeze.eq_3) (aI @frzs.eq_1 (aI @frzs.eq_2 @argSt.eq_1)))))
def q1:=aI (aI (aI (aI (aI @List.map.eq_1.{0,0} @List.map.eq_2.{0,0}) (aI @List.zipIdx.eq_1.{0} (aI @List.zipIdx.eq_2.{0} @List.length.eq_1.{0}))) (aI (aI @List.length.eq_2.{0} @List.take.eq_1.{0}) (aI @List.take.eq_2.{0} (aI @List.take.eq_3.{0} @List.drop.eq_1.{0})))) (aI (aI (aI @List.drop.eq_2.{0} @List.drop.eq_3.{0}) (aI @seqK.eq_1 (aI @blockK.eq_1 @blockK.eq_2))) (aI (aI @blockK.eq_3 (aI @loopK.eq_1 @retQ.eq_1)) (aI @retQ.eq_2 (aI @retQ.eq_3 @RetOk.eq_1))))) (aI (aI (aI (aI @resL.eq_1 @resL.eq_2) (aI @resL.eq_3 (aI @toPVs.eq_1 @toPV.eq_1))) (aI (aI @toPV.eq_2 @toPV.eq_3) (aI @toPV.eq_4 (aI @toPV.eq_5 @toPV.eq_6)))) (aI (aI (aI (aI @toPV.eq_7 @toPV.eq_8) @toPV.go.eq_1) (aI @toPV.go.eq_2 (aI @tupOf.eq_1 @boxPV.eq_1))) (aI (aI @if_true.{0} (aI @if_true.{1} @if_false.{0})) (aI @if_false.{1} (aI @true_and @and_true)))))
def q2:=aI (aI (aI (aI (aI @and_self @forall_const.{0}) (aI @forall_const.{1} (aI @xaD @xaZ))) (aI (aI @xbL @xa4) (aI @Bool.and_false (aI @xaC @xax)))) (aI (aI (aI @List.getElem?_cons_zero.{0} @List.getElem?_cons_succ.{0}) (aI @List.nil_append.{0} (aI @List.cons_append.{0} @implies_true.{0}))) (aI (aI @implies_true.{1} (aI @false_implies @imp_self)) (aI @Bool.and_self (aI @Cov.eq_1 @covEnv.eq_1))))) (aI (aI (aI (aI @covEnv.eq_2 @covObj.eq_1) (aI @covObj.eq_2 (aI @scEnv.eq_1 @scEnv.eq_2))) (aI (aI @scObj.eq_1 (aI @scObj.eq_2 @scP.eq_1)) (aI @scP.eq_2 (aI @scP.eq_3 @scP.eq_4)))) (aI (aI (aI @scP.eq_5 @scP.eq_6) (aI @scP.eq_7 (aI @scP.eq_8 @scP.eq_9))) (aI (aI @scP.eq_10 (aI (aI @scP.eq_11 @scP.eq_12) @scPs.eq_1)) (aI @scPs.eq_2 (aI @ite_self.{0} @ite_self.{1})))))
def q3:=aI (aI (aI (aI (aI @znU @Option.map_some.{0,0}) (aI @Option.map_none.{0,0} (aI @Option.toList_some.{0} @Option.toList_none.{0}))) (aI (aI @Option.getD_some.{0} @Option.getD_none.{0}) (aI @Option.isSome_some.{0} (aI @Option.isSome_none.{0} @List.getElem?_map.{0,0})))) (aI (aI (aI @List.length_map.{0,0} @xam) (aI @List.getElem?_nil.{0} (aI @Int.toNat_zero @decide_true))) (aI (aI @decide_false @xbk) (aI @LObj.box.injEq (aI @zjo @zrY))))) (aI (aI (aI (aI @zzG @zzF) (aI @zzE (aI @zrX @zl2))) (aI (aI @zvB @zoU) (aI @zvD (aI @zvE @zoV)))) (aI (aI (aI @zvC @zuH) (aI @zom (aI @zqX @zol))) (aI (aI @zqZ @zq0) (aI @zj5 (aI @zq6 @zyJ)))))
def q4:=aI (aI (aI (aI (aI @zyI @zyH) (aI @zlE (aI @zuO @zos))) (aI (aI @zuQ @zuR) (aI @zot (aI @zuP @zq5)))) (aI (aI (aI @zyG @zyF) (aI @zyE (aI @zlD @zuK))) (aI (aI @zoq @zuM) (aI @zuN (aI @zor @zuL))))) (aI (aI (aI (aI @one_b @one_i) (aI @one_s (aI @zqC @zBe))) (aI (aI @zus @zBf) (aI @zBg (aI @zut @un_p)))) (aI (aI (aI @un_g @un_lp) (aI @zz8 (aI @un_ep @un_it))) (aI (aI @un_fn (aI @zz9 @zz7)) (aI @zsR (aI @cnd_p @cnd_g)))))
def q5:=aI (aI (aI (aI (aI @zCf @zzB) (aI @zCj (aI @zCh @zCi))) (aI (aI (aI @zzC @zzA) @zrT) (aI @zAw (aI @rs_mv @zAx)))) (aI (aI (aI @zxC @ztp) (aI @gOf_v (aI @zuX @zuY))) (aI (aI @evK_p @evG_p) (aI @evK_v (aI @evG_v @zuw))))) (aI (aI (aI (aI @pkV_b @pkW_b) (aI @gdV_p (aI @gdV_g @zAh))) (aI (aI @zAg @zBx) (aI @zyu (aI @zw2 @zsF)))) (aI (aI (aI @zsE @zsG) (aI @ev_t (aI @ev_c @zCx))) (aI (aI @zBi @zBh) (aI @zBc (aI @zBb @zxP)))))
def q6:=aI (aI (aI (aI (aI @ztE @zw4) (aI @zsI (aI @zvA @zrS))) (aI (aI @zw5 @zw6) (aI @zu7 (aI @zBW @zu6)))) (aI (aI (aI @zrx @zoE) (aI @zoD (aI @zoF @zlN))) (aI (aI @zlO @zrs) (aI @zrr (aI @zoB (aI @zru @zrt)))))) (aI (aI (aI (aI @zBG @zBH) (aI @zBY (aI @zBE @zBN))) (aI (aI @zBJ @zBI) (aI @zBX (aI @eo_or @zBT)))) (aI (aI (aI @zBL @zBO) (aI @zBP (aI @zBQ @zBR))) (aI (aI @zyX @zyW) (aI @zyR (aI @zyS @zyU)))))
def q7:=aI (aI (aI (aI (aI @zyT @zyV) (aI @eo_eq (aI @eo_ne @zBK))) (aI (aI @zBM @zBU) (aI @zBV (aI @zy6 @zy0)))) (aI (aI (aI @zyZ @zyY) (aI @zy3 (aI @zy2 @zy1))) (aI (aI @zoH @zoG) (aI @zoI (aI @zu4 @zu5))))) (aI (aI (aI (aI @zrv @zrw) (aI @zzf (aI @zlP @zki))) (aI (aI @zlR @zlQ) (aI @zza (aI @zzb (aI @zzc (aI @zze @zzg)))))) (aI (aI (aI @zzd @zzj) (aI @zzi (aI @eo_mx @eo_mn))) (aI (aI @zBS @zu2) (aI @zB0 (aI @el_sl @zBZ)))))
def q8:=aI (aI (aI (aI (aI @zvN @zsc) (aI @ldLp.eq_1 (aI @ldEp.eq_1 @stLp.eq_1))) (aI (aI @stEp.eq_1 @faEp.eq_1) (aI @iaRow.eq_1 (aI @lenK.eq_1 @lenK.eq_2)))) (aI (aI (aI @apN.eq_1 @apN.eq_2) (aI @apR.eq_1 (aI @elRow.eq_1 @bdK.eq_1))) (aI (aI @bdK.eq_2 @bsK.eq_1) (aI @bsK.eq_2 (aI @mfK.eq_1 @apC.eq_1))))) (aI (aI (aI (aI @apC.eq_2 @ztk) (aI @zpO (aI @zAt @zxk))) (aI (aI @ztj @zpN) (aI @zpS (aI @znO @zxs)))) (aI (aI (aI @zs8 @zte) (aI @zpI (aI @zpR @znN))) (aI (aI @zAu @zxl) (aI @rv_eq (aI @zAk @zAm)))))
def q9:=aI (aI (aI (aI (aI @zxd @zAn) (aI @zxe (aI @zAr @zxi))) (aI (aI @zAs @zxj) (aI @zxp (aI @zs5 @zpP)))) (aI (aI (aI @znL @zpQ) (aI @znM (aI @zxw @ztc))) (aI (aI @zAp @zxg) (aI @zxv (aI @ztb @zxu))))) (aI (aI (aI (aI @zta @zth) (aI @zpL (aI @zti @zpM))) (aI (aI @zAo @zxf) (aI @zAv (aI @zxm @rv_mx)))) (aI (aI (aI @zAi @rv_mn) (aI @zAj (aI @zAq @zxh))) (aI (aI @ztf @zpJ) (aI @agC_t (aI @agC_f @ogC_t)))))
def q10:=aI (aI (aI (aI (aI @ogC_f @osC_t) (aI @osC_f (aI @zCw @rdT.eq_1))) (aI (aI @gTmp.eq_1 @gTmp.eq_2) (aI @AOpd.tmps.eq_1 (aI @AOpd.tmps.eq_2 @List.flatMap_cons.{0,0})))) (aI (aI (aI @List.flatMap_nil.{0,0} @zCA) (aI @zCz (aI @zBA @rdM.eq_1))) (aI (aI @rdM.eq_2 @zxN) (aI @rdK_p (aI @rdK_g @zxM))))) (aI (aI (aI (aI @zAJ @zAH) (aI @zAF (aI @zAI (aI @zxO @zxL)))) (aI (aI @zp9 @lpK.eq_1) (aI @nxK.eq_1 (aI @cpR.eq_1 @lkK.eq_1)))) (aI (aI (aI @lkK.eq_2 @moK.eq_1) (aI (aI @msK.eq_1 (aI @meK.eq_1 @mtK.eq_1)) (aI @mget.eq_1 @mget.eq_2))) (aI (aI @mput.eq_1 @mput.eq_2) (aI @keyOk.eq_1 (aI @keysOk.eq_1 @keysOk.eq_2)))))
def q11:=aI (aI (aI (aI (aI @zy4 @zoC) (aI @zzh (aI @zu3 @zy9))) (aI (aI @mo_p @mo_lm) (aI (aI @zy5 (aI (aI @zy8 (aI @zy7 (aI @zBF (aI @zAl @zxc)))) (aI (aI @zxr @zs7) (aI @zxq @zs6)))) (aI @zAG @zxn)))) (aI (aI (aI @zs3 @znP) (aI @zkW (aI @zxx @ztd))) (aI (aI @ztg @zpK) (aI @zxt (aI @zs9 @zxo))))) (aI (aI (aI (aI @zs4 @zqY) (aI @un_lm (aI @zCg @ySt.eq_1))) (aI (aI @accY.eq_1 @accY.eq_2) (aI @parEnv.eq_1 (aI @lowE.eq_1 @ghosts.eq_1)))) (aI (aI (aI @GB.eq_1 @List.filter_cons.{0}) (aI @List.filter_nil.{0} (aI @roundK.eq_1 @asgK.eq_1))) (aI (aI @fin_n @fin_s) (aI @pk_or (aI @zA8 @Bool.decide_eq_true)))))
def q12:=aI (aI (aI (aI (aI (aI @zxD (aI @ztq @zAy)) @ztr) (aI @zsM (aI @zpn @zsQ))) (aI (aI @zsO @zsN) (aI @zsP (aI @zpp @zkO)))) (aI (aI (aI @zpo @dk_p) (aI @zB5 (aI @zvk @zzk))) (aI (aI @zB3 @zB4) (aI @List.append_nil.{0} (aI @Eff.ofV.eq_1 @Eff.ofP.eq_1))))) (aI (aI (aI (aI @true_or @or_true) (aI @false_or (aI @or_false @List.all_cons.{0}))) (aI (aI @List.all_nil.{0} @List.length_append.{0}) (aI @xap (aI @Bool.not_not @zuZ)))) (aI (aI (aI @zlV @zlU) (aI @zlT (aI @zlS @List.set_cons_zero.{0}))) (aI (aI @List.set_cons_succ.{0} @roundI.eq_1) (aI @roundI.eq_2 (aI @roundI.eq_3 @ztK)))))
def q13:=aI (aI (aI (aI (aI @ztM @ztL) (aI @ztN (aI @zql @zlc))) (aI (aI @ztQ @zxR) (aI @zxS (aI @ztO @ztP)))) (aI (aI (aI (aI @zAV (aI @zAW (aI @zAK @zAQ))) @zxV) (aI @zxW (aI @ztI @ztJ))) (aI (aI @zxT @zxU) (aI @zxZ (aI @zx0 @zAN))))) (aI (aI (aI (aI @zAM @zAL) (aI @zAP (aI @zAO @zAU))) (aI (aI @zAT @zAS) (aI @zAR (aI @zxY @zxX)))) (aI (aI (aI @zAX @zAY) (aI @zlb (aI @zqi @zla))) (aI (aI @zjM @zn2) (aI @zk4 (aI @zjL @zqj)))))
def q14:=aI (aI (aI (aI @ztH (aI @zqb @zqc)) (aI (aI @zqg @zqh) (aI @znZ @zjJ))) (aI (aI @zjK (aI @zn6 @zqe)) (aI (aI @zn5 @zn4) (aI @zk7 @zk8)))) (aI (aI (aI @zqd (aI @zqk @ztF)) (aI (aI @ztG @zqf) (aI @zk5 @znX))) (aI (aI @zia (aI @zn7 @zk6)) (aI (aI @zn3 (aI @znY (aI @zn1 (aI @zn0 @zqa)))) (aI @zn8 @zk9))))
def q15:=aI (aI @zBC @zyM) (aI @fillLOk.eq_1 @fillLOk.eq_2)
def qG:=aI (aI (aI @q0 (aI @q1 @q2)) (aI (aI @q3 @q4) (aI @q5 @q6))) (aI (aI (aI @q7 @q8) (aI @q9 @q10)) (aI (aI @q11 @q12) (aI @q13 (aI @q14 @q15))))
def qS:=aI (aI @qG @Bool.not_eq_eq_eq_not) (aI @decide_eq_true_eq @Option.some.injEq.{0})
def qR:=aI (aI (aI @List.replicate_succ.{0} @List.replicate_zero.{0}) (aI @List.set_cons_zero.{0} @List.set_cons_succ.{0})) (aI (aI @List.length_set.{0} @List.length_replicate.{0}) (aI @List.length_cons.{0} @List.length_nil.{0}))
def qH:=aI (aI (aI @decide_eq_true_eq (aI @decide_eq_false_iff_not @xbg)) (aI (aI @xau @xbo) (aI @Bool.and_eq_false_imp @xbv))) (aI (aI (aI @xb6 @Bool.not_eq_eq_eq_not) (aI @xaC @xax)) (aI (aI @Int.not_lt @Int.not_le) (aI @Decidable.not_not @not_or)))
def qB:=aI (aI @xax (aI @xaC @Bool.and_self)) (aI (aI @xaZ @xbL) (aI @decide_true @decide_false))
theorem qe:True:=trivial
theorem rE {p:Prop} (h:p:=by simp (disch:=omega) only [qS,qe,Nat.reduceAdd,Nat.reduceMul,Nat.reduceEqDiff,Nat.reduceLeDiff,reduceIte,reduceCtorEq,Nat.reduceBEq,Nat.reduceLT]<;>rfl):p:=h
theorem rD {p:Prop} (h:p:=by simp (disch:=omega) only [qS,qe,Nat.reduceAdd,Nat.reduceMul,Nat.reduceEqDiff,Nat.reduceLeDiff,reduceIte,reduceCtorEq,Nat.reduceBEq,Nat.reduceLT]<;>fail):p:=h
theorem rA {p:Prop} (h:p:=by simp (disch:=omega) only [qS,qe,Nat.reduceAdd,Nat.reduceMul,Nat.reduceEqDiff,Nat.reduceLeDiff,reduceIte,reduceCtorEq,Nat.reduceBEq,Nat.reduceLT];(repeat' apply And.intro)<;>omega):p:=h
theorem rC {p:Prop} (h:p:=by simp (disch:=omega) only [qS,qe,Nat.reduceAdd,Nat.reduceMul,Nat.reduceEqDiff,Nat.reduceLeDiff,reduceIte,reduceCtorEq,Nat.reduceBEq,Nat.reduceLT] at hc ⊢;(repeat' apply And.intro)<;>first|assumption|omega|(simp_all<;>fail)):p:=h
theorem rF {p:Prop} (h:p:=by simp (disch:=omega) only [qS,qe,Nat.reduceAdd,Nat.reduceMul,Nat.reduceEqDiff,Nat.reduceLeDiff,reduceIte,reduceCtorEq,Nat.reduceBEq,Nat.reduceLT]<;>omega):p:=h
theorem aT:True:=trivial
theorem gJ {p q:Prop} (hq:q) (h:p=q:=by first|exact rE|fail):p:=h.mpr hq
theorem gZ {dr:Bool} {F:List RO->St->List Ft->Prop} {r:List RO} {s:St} {acc:List Ft} {q:Prop} (hq:q) (h:zF dr F r s acc=q:=by first|exact rE|fail):zF dr F r s acc:=h.mpr hq
theorem gY {dr:Bool} {F:List RO->St->List Ft->Prop} {r:List RO} {s:St} {acc:List Ft} {q side:Prop} (hq:q) (h:zF dr F r s acc=(side/\q):=by simp (disch:=omega) only [qS,qe,Nat.reduceAdd,Nat.reduceMul,Nat.reduceEqDiff,Nat.reduceLeDiff,reduceIte,reduceCtorEq,Nat.reduceBEq,Nat.reduceLT,<-and_assoc]<;>rfl)
  (hs:side:=by (repeat' apply And.intro)<;>first|omega|trivial|(intro h;(repeat' apply And.intro)<;>first|exact h|omega|(intro h';simp only [h,h',qB];done))):zF dr F r s acc:=h.mpr ⟨hs,hq⟩
abbrev AK (f:(St->List Ft->Prop)->Prop):Prop:=∀ K,f K
section
variable {P:Program} {G:Cfg} {Q:zam} {ts:List (List PV)} {dr:Bool} {K:St->List Ft->Prop} {acc:List Ft} {d:Option Nat} {f:Nat} {args:List AOpd} {gd:Option (Nat × Bool)} {af:List Nat} {r:List RO} {s:St} {vs fs cs:List PV} {res:PV} {c:Bool} {pre:Prop} {ks:List Nat}
theorem za (hf:Pure P f vs res) (hn:zF dr (zp P ts dr K) r (s.set d (fin gd true (.p res))) (zT dr acc s ⟨d,.call f,args,gd,af⟩ []))
  (hc:gOf s gd=some true:=by exact rfl)
  (ht:toPVs s.look (uns (zd s args))=some (pre,vs,ks):=by first|exact rE|fail)
  (hp:true=true->zL (zd s args)=true/\pre:=by intro hc;first|exact rD|exact rA|exact rC|fail)
  (hfl:res.flat=true\/ks=[]:=by first|exact .inl rfl|exact .inr rfl):zp P ts dr K (⟨d,.call f,args,gd,af⟩::r) s acc:=zp1 hf hc ht hp hfl (zw hn)
theorem zg (hf:c=true->Pure P f vs res) (hn:zF dr (zp P ts dr K) r (s.set d (fin gd c (.p res))) (zT dr acc s ⟨d,.call f,args,gd,af⟩ []))
  (hc:gOf s gd=some c:=by first|rfl|(simp (disch:=omega) only [qG,qe,Nat.reduceAdd,Nat.reduceMul,Nat.reduceEqDiff,Nat.reduceLeDiff,reduceIte,reduceCtorEq,Nat.reduceBEq,Nat.reduceLT]<;>rfl))
  (ht:toPVs s.look (uns (zd s args))=some (pre,vs,ks):=by first|exact rE|fail)
  (hp:c=true->zL (zd s args)=true/\pre:=by intro hc;first|exact absurd hc Bool.false_ne_true|exact rD|exact rA|exact rC|fail)
  (hfl:res.flat=true\/ks=[]:=by first|exact .inl rfl|exact .inr rfl):zp P ts dr K (⟨d,.call f,args,gd,af⟩::r) s acc:=zpZ hf hc ht hp hfl (zw hn)
theorem zo (hf:Pure P f vs res) (hn:zF dr (zp P ts dr K) r ((s.wrs (frzs s.look ks)).set d (.p res)) (zT dr acc s ⟨d,.call f,args,none,af⟩ (frzs s.look ks)))
  (ht:toPVs s.look (uns (zd s args))=some (pre,vs,ks):=by first|exact rE|fail)
  (hp:zL (zd s args)=true/\pre:=by first|trivial|exact rD|exact rA|fail):zp P ts dr K (⟨d,.call f,args,none,af⟩::r) s acc:=zp0 hf ht hp (zw hn)
theorem zl (hf:Pure P f (fs++vs++cs) res) (hn:zF dr (zp P ts dr K) r (s.set d (fin gd true (.p res))) (zT dr acc s ⟨d,.callv,args,gd,af⟩ []))
  (hc:gOf s gd=some true:=by exact rfl)
  (ht:toPVs s.look (uns (zd s args))=some (pre,.fn (.func f) fs cs::vs,ks):=by first|exact rE|fail)
  (hp1:zL (zd s args)=true:=by first|exact rD|fail)
  (hp2:pre:=by first|trivial|exact rD|exact rA|fail)
  (hfl:res.flat=true\/ks=[]:=by first|exact .inl rfl|exact .inr rfl):zp P ts dr K (⟨d,.callv,args,gd,af⟩::r) s acc:=zpY hc ht (λ_=>⟨hp1,hp2,hf⟩) hfl (zw hn)
theorem zcE (hc:gOf s gd=some true:=by exact rfl)
  (ht:toPVs s.look (uns (zd s args))=some (pre,vs,ks):=by first|exact rE|fail)
  (hp:true=true->zL (zd s args)=true/\pre:=by intro hc;first|exact rD|exact rA|exact rC|fail)
  (hfl:res.flat=true\/ks=[]:=by first|exact .inl rfl|exact .inr rfl)
  (hf:Pure P f vs res) (hn:zF dr (zp P ts dr K) r (s.set d (fin gd true (.p res))) (zT dr acc s ⟨d,.call f,args,gd,af⟩ [])):zp P ts dr K (⟨d,.call f,args,gd,af⟩::r) s acc:=za hf hn hc ht hp hfl
theorem zkX (hc:gOf s gd=some c:=by first|rfl|(simp (disch:=omega) only [qG,qe,Nat.reduceAdd,Nat.reduceMul,Nat.reduceEqDiff,Nat.reduceLeDiff,reduceIte,reduceCtorEq,Nat.reduceBEq,Nat.reduceLT]<;>rfl))
  (ht:toPVs s.look (uns (zd s args))=some (pre,vs,ks):=by first|exact rE|fail)
  (hp:c=true->zL (zd s args)=true/\pre:=by intro hc;first|exact absurd hc Bool.false_ne_true|exact rD|exact rA|exact rC|fail)
  (hfl:res.flat=true\/ks=[]:=by first|exact .inl rfl|exact .inr rfl)
  (hf:c=true->Pure P f vs res) (hn:zF dr (zp P ts dr K) r (s.set d (fin gd c (.p res))) (zT dr acc s ⟨d,.call f,args,gd,af⟩ [])):zp P ts dr K (⟨d,.call f,args,gd,af⟩::r) s acc:=zg hf hn hc ht hp hfl
end
theorem sE {p:Prop} (h:p:=by simp only [qS,Nat.reduceAdd,Nat.reduceMul,Nat.reduceEqDiff,Nat.reduceLeDiff,reduceIte,reduceCtorEq,Nat.reduceBEq,Nat.reduceLT]):p:=h
theorem sR {p:Prop} (h:p:=by simp only [qS,Nat.reduceAdd,Nat.reduceMul,Nat.reduceEqDiff,Nat.reduceLeDiff,reduceIte,reduceCtorEq,Nat.reduceBEq,Nat.reduceLT]<;>rfl):p:=h
theorem sS {p:Prop} (h:p:=by simp only [qS,Nat.reduceAdd,Nat.reduceMul,Nat.reduceEqDiff,Nat.reduceLeDiff,reduceIte,reduceCtorEq,Nat.reduceBEq,Nat.reduceLT]<;>simp):p:=h
class Stp (p:Prop) (q:outParam Prop):Prop where
 h:q->p
theorem gS {p q:Prop} [Stp p q] (h:q):p:=Stp.h h
class Mx (P:Program):Prop where
 h:P.follows .mixedOrders=true
section
variable {G:Cfg} {Q:zam} {s:St} {x y:AC} {i:Nat} {l:List RO}
instance:Stp (Run G (.seq x y) s Q) (Run G x s (seqK G y Q)):=⟨zbC⟩
instance:Stp (Run G (.block i x) s Q) (Run G x s (blockK i Q)):=⟨zdi⟩
instance:Stp (Run G (.scope x) s Q) (Run G x s Q):=⟨zpT⟩
instance:Stp (Run G .label s Q) (Q .normal s):=⟨zpX⟩
instance:Stp (Run G .ret s Q) (Q .ret s):=⟨zxy⟩
instance:Stp (Run G (.exit i) s Q) (Q (.exit i) s):=⟨zcU⟩
instance:Stp (Run G .skip s Q) (Q .normal s):=⟨zen⟩
instance:Stp (Run G (.ops false l) s Q) (∀ K:St->List Ft->Prop,(∀ s acc,Q .normal s->K s acc)->zF false (zp G.P G.ts false K) l s []):=⟨zxz⟩
instance [Mx G.P]:Stp (Run G (.ops true l) s Q) (∀ K:St->List Ft->Prop,(∀ s acc,Q .normal s->(_h:zec acc.reverse=true:=by rfl)->K s acc)->zF true (zp G.P G.ts true K) l s []):=⟨λh=>ztm Mx.h λK hK=>h K λs acc hq hd=>hK s acc hd hq⟩
end
end Go.Proofs.YtbgckikhhcbmpaaGreat
namespace Go.Proofs.YtbgckikhhcbmpaaGreat
open Go.ChangeShapes Go.WideShapes Go.ChangeAt Go.RowKit
inductive CP where
 | b
 | i (k:IntKind)
 | s
 | sl (ag:Bool) (cs:List CP)
def FitAll (F:CP->PV->Prop):List CP->List PV->Prop
 | [],[]=>True
 | c::cs,p::ps=>F c p/\FitAll F cs ps
 | _,_=>False
theorem FitAll.app {F:CP->PV->Prop}:∀ {a:List CP} {p:List PV} {b:List CP} {q:List PV},FitAll F a p->FitAll F b q->FitAll F (a++b) (p++q)
 | [],[],_,_,_,h=>h
 | [],_::_,_,_,h,_=>h.elim
 | _::_,[],_,_,h,_=>h.elim
 | c::cs,p::ps,_,_,h,k=>⟨h.1,FitAll.app h.2 k⟩
theorem FitAll.len {F:CP->PV->Prop}:∀ {a:List CP} {p:List PV},FitAll F a p->p.length=a.length
 | [],[],_=>rfl
 | [],_::_,h=>h.elim
 | _::_,[],h=>h.elim
 | c::cs,p::ps,h=>by simp [FitAll.len h.2]
section
variable {H:Type} {enc:TypeId × Value->H} {P:Program} {w:World} {base:Nat} {sp:Nat->Bool} {held:Bool}
end
end Go.Proofs.YtbgckikhhcbmpaaGreat
namespace Go.Proofs.YtbgckikhhcbmpaaGreat
open Go.RowKit
theorem RelC.pub {X:Fx} {C:Ctx} {tr:List (List PV)} {stop:Bool} {a:Act} {w:World} {s:St} (hM:X.MOk) (h:RelC X C s.get s.look tr stop a w) (t:Nat) {pre:Prop} {v v':PV} {ks:List Nat} (ht:toPV s.look 4 (s.get t)=some (pre,v,ks)) (hp:pre) (hw:Weak v v') :
  ∃ C',RelC X C' ((s.wrs (frzs s.look ks)).set (some t) (.p v')).get ((s.wrs (frzs s.look ks)).set (some t) (.p v')).look tr stop a w:=by
 obtain ⟨C',h1,h2,h3⟩:=zgL hM s.look C ks s C h rfl rfl (λ_ h=>h) (λk=>.inl rfl) (zjt 4 ht)
 have hr:=zmf h (B':=C'.B) h2 4 (h.env t) ht hp h3;refine ⟨C',?_⟩;rw [zlH,ziz];refine { h1 with env:=λj=>?_,envs:=λj=>?_ }
 ·by_cases e:j=t
  ·subst e;simp only [zk];exact .p (hw.rep hr)
  ·simp only [zA _ _ e];exact h1.env j
 ·by_cases e:j=t
  ·subst e;simp only [zk];exact .p _
  ·simp only [zA _ _ e];exact h1.envs j
inductive Pubs:St->St->Prop
 | cov {s s':St} (h:Cov s s'):Pubs s s'
 | pub {s s':St} (t:Nat) (v':PV) {pre:Prop} {v:PV} {ks:List Nat} (ht:toPV s.look 4 (s.get t)=some (pre,v,ks)) (hp:pre) (hw:Weak v v') (h:Pubs ((s.wrs (frzs s.look ks)).set (some t) (.p v')) s'):Pubs s s'
theorem Pubs.rel {X:Fx} {a:Act} {w:World} {s s':St} (hM:X.MOk) (h:Pubs s s'):∀ {C:Ctx},RelC X C s.get s.look s.tr s.stop a w->∃ C',RelC X C' s'.get s'.look s'.tr s'.stop a w:=by
 induction h with
 | cov h=>exact λhr=>⟨_,zdt h hr⟩
 | pub t v' ht hp hw _ ih=>
  intro C hr;obtain ⟨C',h'⟩:=hr.pub hM t ht hp hw;refine ih (C:=C') ?_;rw [(zV _ _ _).1,(zV _ _ _).2,(za8 _ _).1,(za8 _ _).2];exact h'
theorem Pubs.x {s s':St} (t:Nat) (v':PV) {pre:Prop} {v:PV} {ks:List Nat} (h:Pubs ((s.wrs (frzs s.look ks)).set (some t) (.p v')) s')
  (ht:toPV s.look 4 (s.get t)=some (pre,v,ks):=by first|exact rE|fail)
  (hp:pre:=by first|trivial|omega|(simp;done)|exact rF|fail) (hw:Weak v v':=by first|exact .refl _|exact .nilsl _):Pubs s s':=.pub t v' ht hp hw h
section
variable {κ:Type} (inv:κ->St) (ok:κ->Prop) (μ:κ->Nat) (k:κ) (Q:zam) (s:St)
end
end Go.Proofs.YtbgckikhhcbmpaaGreat
namespace Go.Proofs.YtbgckikhhcbmpaaGreat
open Go.RowKit
def gLV (k:Nat):LObj->LV
 | .box _ _=>.lp k 0
 | .row _ _ xs _=>.row k xs.length
 | .sit _ _=>.it k
 | .mit _ _=>.it k
 | .mp _ _=>.lm k
 | .hrow ..=>.any
def gV (C:Ctx) (k:Nat):LObj->Value
 | .row ..=>C.cur k
 | .mp ..=>.map (some (C.ρ k))
 | .hrow ..=>undef
 | _=>.pointer (some ⟨C.ρ k,0,none⟩)
theorem zri {w:World} {C:Ctx} {l:Nat->Option LObj} (k:Nat) (o:LObj):RepL w C l (gV C k o) (gLV k o):=by
 cases o with
 | box=>exact .lp
 | row=>exact .row λ_ _ _ _ _ _=>rfl
 | sit=>exact .it
 | mit=>exact .it
 | mp=>exact .lm
 | hrow=>exact .any _
theorem zwB {l:Nat->Option LObj} {k:Nat} {o:LObj} (h:l k=some o):LV.Sc l (gLV k o):=by
 cases o with
 | box=>exact .lp h
 | row=>exact .row h (xap _)
 | sit=>exact .it h
 | mit=>exact .im h
 | mp=>exact .lm h
 | hrow=>exact .any
theorem RepL.sub {w:World} {C C':Ctx} {l l':Nat->Option LObj} (hl:∀ k o,l' k=some o->l k=some o) (hB:∀ b,C.B b->C'.B b) (hy:C'.y=C.y) (hρ:C'.ρ=C.ρ) (hc:C'.cur=C.cur) {v:Value} {q:LV} (h:RepL w C l v q):RepL w C' l' v q:=by
 induction h with
 | p h=>exact .p (h.mono hB λ_ _=>rfl)
 | g _ h2 ih=>exact .g ih h2
 | lp=>rw [<-hρ];exact .lp
 | row h=>exact .row λe sz xs fz hk hx=>by rw [hc];exact h e sz xs fz (hl _ _ hk) hx
 | ep h=>exact .ep λe sz xs fz hk hx=>by rw [hc];exact h e sz xs fz (hl _ _ hk) hx
 | it=>rw [<-hρ];exact .it
 | lm=>rw [<-hρ];exact .lm
 | fn h1 h2 _ _ ih1 ih2=>exact .fn h1 h2 ih1 ih2
 | agg h1 _ ih=>exact .agg h1 ih
 | tup h1 _ ih=>exact .tup h1 ih
 | yield=>rw [<-hy];exact .yield
 | any v=>exact .any v
theorem ObjRel.sub {w:World} {C C':Ctx} {l l':Nat->Option LObj} (hl:∀ k o,l' k=some o->l k=some o) (hB:∀ b,C.B b->C'.B b) (hy:C'.y=C.y) (hρ:C'.ρ=C.ρ) (hc:C'.cur=C.cur) {k:Nat} {o:LObj} (h:ObjRel w C l k o):ObjRel w C' l' k o:=by
 cases o with
 | box cs fz=>obtain ⟨arr,ty,h1,h2,h3⟩:=h;exact ⟨arr,ty,by rw [hρ];exact h1,h2,λj v q hv hq=>(h3 j v q hv hq).sub hl hB hy hρ hc⟩
 | row e sz xs fz=>obtain ⟨us,h1,h2,h3⟩:=h;exact ⟨us,by rw [hc];exact h1,h2.mono hB λ_ _=>rfl,h3⟩
 | hrow e sz xs a c=>obtain ⟨⟨us,h1,h2,h3⟩,h4⟩:=h;exact ⟨⟨us,by rw [hc];exact h1,h2.mono hB λ_ _=>rfl,h3⟩,by rw [hc];exact h4⟩
 | sit s pos=>show w.heap[C'.ρ k]?=_;rw [hρ];exact h
 | mit rem cur=>exact MitOk.keep hB (λ_ _=>rfl) (by rw [hρ]) h
 | mp es fz=>obtain ⟨ents,clock,fs,h1,h0,h2,h3⟩:=h;exact ⟨ents,clock,fs,by rw [hρ];exact h1,h0,h2,λj m kv hm hkv=>⟨(h3 j m kv hm hkv).1.mono hB λ_ _=>rfl,(h3 j m kv hm hkv).2.mono hB λ_ _=>rfl⟩⟩
def ghO (obj:List (Nat × LObj)):List (Nat × LV):=obj.map λx=>(GB+x.1,gLV x.1 x.2)
def zx (args:List LV) (obj:List (Nat × LObj)):St:=⟨(args.zipIdx.map λx=>(x.2,x.1))++ghO obj,obj,[],false⟩
theorem zse (g:Nat):∀ (obj:List (Nat × LObj)) (t:Nat),zS (obj.map λx=>(g+x.1,gLV x.1 x.2)) t=if g<=t then (match zm obj (t - g) with|some o=>gLV (t - g) o|none=>.any) else .any
 | [],t=>by simp [zS,zm]
 | (k,o)::r,t=>by
  have ih:=zse g r t;simp only [xaj,zS,zm]
  by_cases e:t=g+k
  ·subst e;rw [if_pos rfl,if_pos (by omega),xce,if_pos rfl]
  ·rw [if_neg e,ih]
   by_cases h:g<=t
   ·rw [if_pos h,if_pos h,if_neg (by omega)]
   ·rw [if_neg h,if_neg h]
theorem zf7 (obj:List (Nat × LObj)) (t:Nat):zS (ghO obj) t=if GB<=t then (match zm obj (t - GB) with|some o=>gLV (t - GB) o|none=>.any) else .any:=zse GB obj t
theorem zgp {w:World} {C:Ctx} {l:Nat->Option LObj} {v:Value} {k off:Nat} (h:RepL w C l v (.lp k off)):v=.pointer (some ⟨C.ρ k,off,none⟩):=by cases h;rfl
theorem zcn {w:World} {C:Ctx} {l:Nat->Option LObj} {v:Value} {k n:Nat} (h:RepL w C l v (.row k n)):∀ e sz xs fz,l k=some (.row e sz xs fz)->xs.length=n->v=C.cur k:=by cases h;assumption
theorem zcV {w:World} {C:Ctx} {l:Nat->Option LObj} {v:Value} {k:Nat} (h:RepL w C l v (.it k)):v=.pointer (some ⟨C.ρ k,0,none⟩):=by cases h;rfl
theorem zgq {w:World} {C:Ctx} {l:Nat->Option LObj} {v:Value} {k:Nat} (h:RepL w C l v (.lm k)):v=.map (some (C.ρ k)):=by cases h;rfl
theorem zfj (r : List (Nat × LV)) : ∀ (args : List LV) (n t : Nat), n <= t -> zS ((args.zipIdx n |>.map λx => (x.2, x.1)) ++ r) t = (match args[t - n]? with | some q => q | none => zS r t)
 | [],n,t,_=>by simp
 | v::a,n,t,h=>by
  simp only [List.zipIdx_cons,xaj,xaM,zS]
  by_cases e:t=n
  ·subst e;simp
  ·rw [if_neg e,zfj r a (n+1) t (by omega)]
   have:t - n=(t - (n+1))+1:=by omega
   rw [this];rfl
def keepO (s:St):List (Nat × LObj)->Prop
 | []=>True
 | (k,o)::r=>s.look k=some o/\o.frozen=false/\keepO s r
def keepG (s:St):List (Nat × LObj)->Prop
 | []=>True
 | (k,o)::r=>s.get (GB+k)=gLV k o/\keepG s r
theorem zdq {s:St}:∀ {l:List (Nat × LObj)},keepO s l->∀ k o,zm l k=some o->s.look k=some o/\o.frozen=false
 | [],_,k,o,h=>by simp [zm] at h
 | (j,u)::r,hk,k,o,h=>by
  simp only [zm] at h
  split at h
  ·rename_i e;subst e;injection h with h;subst h;exact ⟨hk.1,hk.2.1⟩
  ·exact zdq hk.2.2 k o h
theorem zgH {s:St}:∀ {l:List (Nat × LObj)},keepG s l->∀ k o,zm l k=some o->s.get (GB+k)=gLV k o
 | [],_,k,o,h=>by simp [zm] at h
 | (j,u)::r,hk,k,o,h=>by
  simp only [zm] at h
  split at h
  ·rename_i e;subst e;injection h with h;subst h;exact hk.1
  ·exact zgH hk.2 k o h
def RetR (rs:List RV) (res:LV) (obj':List (Nat × LObj)) (s:St):Prop:=
 ∃ pre lvs,resL s rs=some (pre,lvs)/\pre/\((lvs=[res]/\scP (zm obj') res)\/(∃ pre2 vs ks v,toPVs s.look lvs=some (pre2,vs,ks)/\pre2/\Weak (tupOf vs) v/\res=.p v/\∀ k ∈ ks,zm obj' k=none)\/∃ x y r,lvs=x::y::r/\res=.tup (x::y::r)/\scP (zm obj') res)
def RetA (rs:List RV) (res:LV) (obj obj':List (Nat × LObj)) (s:St):Prop:=keepO s obj'/\keepG s obj/\RetR rs res obj' s
def retA (rs:List RV) (res:LV) (obj obj':List (Nat × LObj)):zam
 | .normal,s=>RetA rs res obj obj' s
 | .ret,s=>RetA rs res obj obj' s
 | .exit _,_=>False
def zcQ (l:Nat->Option LObj):List (Nat × LObj)->Prop
 | []=>True
 | (k,o)::r=>(match o,l k with
  | .box _ _,some (.box _ _)=>True
  | .row e sz xs _,some (.row e' sz' xs' _)=>e'=e/\sz'=sz/\xs.length<=xs'.length
  | .sit _ _,some (.sit _ _)=>True
  | .mit _ _,some (.mit _ _)=>True
  | .mp _ _,some (.mp _ _)=>True
  | .hrow e sz _ _ _,some (.hrow e' sz' _ _ _)=>e'=e/\sz'=sz
  | _,_=>False)/\zcQ l r
theorem zf2 {l:Nat->Option LObj}:∀ {obj:List (Nat × LObj)},zcQ l obj->∀ k o,zm obj k=some o->∃ o',l k=some o'/\o.Follows o'/\True
 | [],_,k,o,h=>by simp [zm] at h
 | (j,u)::r,hf,k,o,h=>by
  simp only [zm] at h
  split at h
  ·rename_i e;subst e;injection h with h;subst h;have h1:=hf.1
   split at h1
   ·rename_i h2;exact ⟨_,h2,trivial,trivial⟩
   ·rename_i h2;obtain ⟨rfl,rfl,h3⟩:=h1;exact ⟨_,h2,⟨rfl,rfl,by omega⟩,trivial⟩
   ·rename_i h2;exact ⟨_,h2,trivial,trivial⟩
   ·rename_i h2;exact ⟨_,h2,trivial,trivial⟩
   ·rename_i h2;exact ⟨_,h2,trivial,trivial⟩
   ·rename_i h2;exact ⟨_,h2,h1,trivial⟩
   ·exact h1.elim
  ·exact zf2 hf.2 k o h
def zsu:List (Nat × LObj)->Prop
 | []=>True
 | (_,o)::r=>o.frozen=false/\zsu r
theorem zin:∀ {l:List (Nat × LObj)},zsu l->∀ k o,zm l k=some o->o.frozen=false
 | [],_,k,o,h=>by simp [zm] at h
 | (j,u)::r,hk,k,o,h=>by
  simp only [zm] at h
  split at h
  ·injection h with h;subst h;exact hk.1
  ·exact zin hk.2 k o h
attribute [local irreducible] GB
section
variable {P:Program}
def zCy (w:World) (C:Ctx) (obj:List (Nat × LObj)) (N:Nat):Fx:={ w0:=w,B0:=C.B,B1:=λb=>C.B b\/zwS C obj b,M:=zwS C obj,O0:=λ_=>False,D0:=λ_=>False,Bo:=λb=>C.B b\/zwS C obj b,no:=w.heap.size,N:=N,y:=C.y,J:=λ_ _ _ _=>True,Jx:=λ_ _ _=>True,gv:=λt=>match zm obj (t - GB) with|some o=>gV C (t - GB) o|none=>undef,K:=[] }
def retE (rs:List RV) (res:HD->LV) (obj:List (Nat × LObj)) (obj':HD->List (Nat × LObj)):zam
 | .normal,s=>∃ i,RetA rs (res i) obj (obj' i) s
 | .ret,s=>∃ i,RetA rs (res i) obj (obj' i) s
 | .exit _,_=>False
theorem zkC {f : FuncId} {fn : Func} {body : Code} {c : AC} {rs : List RV} {args : List LV} {obj : List (Nat × LObj)} {obj'E : HD → List (Nat × LObj)} {zfy : HD → LV} (hf : P.funcs[f]? = some fn) (hname : (fn.name == "runtime.NumGoroutine") = false) (hb : fn.body = some body)
  (hc:zI P fn.ntmps body=some c) (hrs:zaF P fn.results.toList=some rs) (hn:args.length≤fn.ntmps) (hgb:fn.ntmps≤GB)
  (hsa:scPs (zm obj) args) (hso:scObj (zm obj) obj) (hnf:zsu obj) (hso'E:∀ i,scObj (zm (obj'E i)) (obj'E i)) (hfolE:∀ i,zcQ (zm (obj'E i)) obj)
  (hrun:∀ X:Fx,X.N=fn.ntmps→Run ⟨P,X,none,[]⟩ c (zx args obj) (retE rs zfy obj obj'E)):ActsE P f args obj zfy obj'E:=by
 refine ⟨⟨fn,body,hf,hname,hb⟩,fun k o hk=>⟨zaZ hso k o hk,zin hnf k o hk⟩,fun i k o hk=>?_,fun w C vs fr hlen hvs=>callsIn_wide.1 (callsIn_of_wp_marks (F:=Fence.wide) (n:=0) hf hb trivial ?_ rfl)⟩
 ·obtain ⟨o',h1,h2,_⟩:=zf2 (hfolE i) k o hk;exact ⟨o',h1,h2⟩
 let X:=zCy w C obj fn.ntmps
 have hX:X.Triv:=fun t D o w=>⟨trivial,trivial⟩
 have hN:(vs.toArray++Array.replicate (fn.ntmps - vs.toArray.size) undef).size=fn.ntmps:=by simp;omega
 have hget:∀ t,(zx args obj).get t=(match args[t]? with|some q=>q|none=>zS (ghO obj) t):=fun t=>by
  have:=zfj (ghO obj) args 0 t (xbk _)
  simpa [zx,St.get] using this
 let C0:Ctx:={ C with n:=0,dep:=fun _=>False,own:=fun _=>False }
 have h0:RelC X C0 (zx args obj).get (zx args obj).look [] false { tmps:=vs.toArray++Array.replicate (fn.ntmps - vs.toArray.size) undef,defers:=[] } w:=
  {
   kx:=KeepX.refl _ _
   yy:=rfl
   b0:=fun b h=>h
   blt:=fr.blt
   bold:=fun b h _=>.inl h
   borg:=fun b h=>.inl (.inl h)
   no0:=xap _
   tsz:=hN
   ngb:=hgb
   env:=fun t=>by
    rw [hget]
    split
    ·rename_i q hq
     have hta:t < args.length:=(xaa.1 hq).1
     rw [zbc (xaJ (xaJ hta hn) hgb)]
     have ht:t < vs.length:=by omega
     have:(vs.toArray++Array.replicate (fn.ntmps - vs.toArray.size) undef).getD t undef=vs[t]:=by
      rw [xag,xbU (by simpa using ht)]
      simp [ht]
     rw [this]
     exact RepL.sub (C:=C) (C':=C0) (l:=zm obj) (fun _ _ h=>h) (fun _ h=>h) rfl rfl rfl (hvs t _ q (xac ht) hq)
    ·rw [zf7]
     split
     ·rename_i hge
      have hv:zbz X { tmps:=vs.toArray++Array.replicate (fn.ntmps - vs.toArray.size) undef,defers:=[] } t=(match zm obj (t - GB) with|some o=>gV C (t - GB) o|none=>undef):=by
       unfold zbz;rw [if_neg (by omega)];rfl
      rw [hv]
      split
      ·rename_i o ho;exact RepL.sub (C:=C) (C':=C0) (l:=zm obj) (fun _ _ h=>h) (fun _ h=>h) rfl rfl rfl (zri (w:=w) (C:=C) (l:=zm obj) _ o)
      ·exact .any _
     ·exact .any _
   envs:=fun t=>by
    rw [hget]
    split
    ·rename_i q hq;exact zfp _ q (xap _) (zel hsa t q hq)
    ·rw [zf7]
     split
     ·split
      ·rename_i o ho;exact zwB ho
      ·exact .any
     ·exact .any
   obj:=fun k o hk=>ObjRel.sub (C:=C) (C':=C0) (l:=zm obj) (fun _ _ h=>h) (fun _ h=>h) rfl rfl rfl (fr.ob k o hk)
   objs:=fun k o hk=>fr.objs k o hk
   sep:=fun k o b hk hb=>by
    obtain ⟨h1,h2⟩:=fr.sep k o b hk hb
    exact ⟨fun _=>.inr ⟨k,o,hk,hb⟩,h1,fun _=>h2,fun h=>by rw [fr.fz k o hk] at h;cases h⟩
   dis:=fun k k' o o' b hne hk hk' hb hb'=>fr.dis k k' o o' b hne hk hk' hb hb'
   marks:=fun p hp=>by cases hp
   nle:=xbk _
   dn:=fun _ h=>h.elim
   nn:=fun k o b hk _ _ h=>h.elim
   ow:=fun _ h=>h.elim
   oold:=fun _ h=>h.elim
   dold:=fun _ h=>h.elim
   jj:=.inl hX }
 refine wpIn_mono (hrun X rfl ⟨⟨fun b h=>.inr h,fun b h=>.inl (.inr h)⟩,.inl rfl,fun l h=>by cases h⟩ body hc _ _ _ h0) ?_
 rintro e a' w' ⟨s',C',hr',hq⟩
 have key:(∃ i,RetA rs (zfy i) obj (obj'E i) s')→LeavesInM Fence.wide 0 P fn a'.tmps (fun e w'=>∃ i u C',e=.returned u∧zwc w C w' C' obj (obj'E i) u (zfy i)) a'.defers .returning w':=fun ⟨iE,hRetA⟩=>by
  have hso':=hso'E iE
  have hfol:=hfolE iE
  generalize hobjE:obj'E iE=obj' at hRetA hso' hfol
  generalize hresE:zfy iE=res at hRetA
  obtain ⟨hko,hkg,pre,lvs,hl,hp,hres⟩:=hRetA
  refine zdp (ro:=none) a'.defers a' w' rfl hr' fun w2 h2=>?_
  obtain ⟨us,hrun,hus⟩:=zdy (fn:=fn) hrs h2 hl hp
  refine ⟨_,hrun,iE,?_⟩
  rw [hobjE,hresE]
  have sub:∀ k o,zm obj' k=some o→s'.look k=some o:=fun k o hk=>(zdq hko k o hk).1
  have nfz:∀ k o,zm obj' k=some o→o.frozen=false:=fun k o hk=>(zdq hko k o hk).2
  have tied:∀ k o o',zm obj k=some o→zm obj' k=some o'→(∀ e sz xs a c,o'≠.hrow e sz xs a c)→(∀ e sz xs f e' sz' xs' f',o=.row e sz xs f→o'=.row e' sz' xs' f'→xs'.length=xs.length)→Tied C' k C k o':=fun k o o' hk hk' hnh hle=>by
   have hg:=zgH hkg k o hk
   have hv:∀ a2:Act,zbz X a2 (GB+k)=gV C k o:=fun a2=>by
    unfold zbz;rw [if_neg (by omega)]
    show (match zm obj (GB+k - GB) with|some o=>gV C (GB+k - GB) o|none=>undef)=_
    rw [xce,hk]
   have he:RepL w2 C' s'.look (gV C k o) (gLV k o):=by
    rw [←hg,←hv { tmps:=a'.tmps,defers:=[] }];exact h2.env (GB+k)
   obtain ⟨o2,f1,f2,f3⟩:=zf2 hfol k o hk
   rw [hk'] at f1;injection f1 with f1;subst f1
   cases o<;>cases o'<;>simp only [LObj.Follows] at f2
   ·have h3:=zgp he;simp only [gV,Value.pointer.injEq,xaK,Addr.mk.injEq] at h3;exact h3.1.symm
   ·rename_i e sz xs fz e' sz' xs' fz'
    simp only [gV,gLV] at he
    exact (zcn he _ _ _ _ (sub _ _ hk') (hle _ _ _ _ _ _ _ _ rfl rfl)).symm
   ·have h3:=zcV he;simp only [gV,Value.pointer.injEq,xaK,Addr.mk.injEq] at h3;exact h3.1.symm
   ·have h3:=zcV he;simp only [gV,Value.pointer.injEq,xaK,Addr.mk.injEq] at h3;exact h3.1.symm
   ·have h3:=zgq he;simp only [gV,Value.map.injEq,xaK] at h3;exact h3.symm
   ·exact absurd rfl (hnh _ _ _ _ _)
  have fin:∀ (ks:List Nat) (u:Value),(∀ k ∈ ks,zm obj' k=none)→RepL w2 { C' with B:=fun b=>C'.B b∨zbv C' s'.look ks b } (zm obj') u res→LV.Sc (zm obj') res→zwc w C w2 { C' with B:=fun b=>C'.B b∨zbv C' s'.look ks b } obj obj' u res:=fun ks u hks hrep hsc=>by
   have noB:∀ k o b,zm obj' k=some o→blk C' k o=some b→¬(C'.B b∨zbv C' s'.look ks b):=fun k o b hk hb hB=>by
    rcases hB with hB|⟨k2,hk2,o2,h3,h4⟩
    ·exact (h2.sep k o b (sub k o hk) hb).2.2.1 (nfz k o hk) hB
    ·refine h2.dis k k2 o o2 b (fun e=>?_) (sub k o hk) h3 hb h4
     subst e;rw [hks k hk2] at hk;cases hk
   exact {
    kx:=h2.kx.mono fun b _ hb=>hb.elim id fun h=>h.elim
    fr:={
     blt:=fun b hb=>hb.elim (h2.blt b) fun ⟨k,_,o,h3,h4⟩=>(h2.sep k o b h3 h4).2.1
     ob:=fun k o hk=>ObjRel.sub (C:=C') (C':={ C' with B:=fun b=>C'.B b∨zbv C' s'.look ks b }) sub (fun _ h=>.inl h) rfl rfl rfl (h2.obj k o (sub k o hk))
     objs:=fun k o hk=>zaZ hso' k o hk
     fz:=nfz
     sep:=fun k o b hk hb=>⟨(h2.sep k o b (sub k o hk) hb).2.1,noB k o b hk hb⟩
     dis:=fun k k' o o' b hne hk hk' hb hb'=>h2.dis k k' o o' b hne (sub k o hk) (sub k' o' hk') hb hb' }
    b1:=fun b hb=>.inl (h2.b0 b hb)
    b2:=fun b hb=>by
     by_cases hlt:b < w.heap.size
     ·rcases hb with hb|⟨k,hk,o,h3,h4⟩
      ·rcases h2.bold b hb hlt with h|h
       ·exact .inl h
       ·exact .inr (.inr h)
      ·obtain ⟨e1,e2,_,e4⟩:=h2.sep k o b h3 h4
       cases hf:o.frozen with
       | true=>
        rcases h2.bold b (e4 hf) hlt with h|h
        ·exact .inl h
        ·exact .inr (.inr h)
       | false=>
        rcases e1 hf with h|h
        ·exact .inr (.inl h)
        ·exact .inr (.inr h)
     ·exact .inr (.inl (by omega))
    y:=h2.yy
    fol:=fun k o hk=>by obtain ⟨o',f1,f2,_⟩:=zf2 hfol k o hk;exact ⟨o',f1,f2⟩
    tied:=fun k o o' hk hk' hnh hle=>by have:=tied k o o' hk hk' hnh hle;cases o'<;>exact this
    bk:=fun k o b hk hb=>((h2.sep k o b (sub k o hk) hb).1 (nfz k o hk)).symm
    rp:=hrep
    scr:=hsc }
  rcases hres with ⟨rfl,hsc⟩|⟨pre2,vs2,ks,v,ht,hp2,hw,rfl,hks⟩|⟨x,y,r,rfl,rfl,hsc⟩
  ·match us,hus with
   | [u],hus=>
    refine ⟨u,_,rfl,fin [] u (fun k h=>by cases h) ?_ (zfp _ res (xap _) hsc)⟩
    exact RepL.sub (C:=C') (C':={ C' with B:=fun b=>C'.B b∨zbv C' s'.look [] b }) sub (fun _ h=>.inl h) rfl rfl rfl (hus.2 0 u res rfl rfl).1
   | [],hus=>exact absurd hus.1 (by simp)
   | _::_::_,hus=>exact absurd hus.1 (by simp)
  ·have hreps:=zbm h2 hus ht hp2
   refine ⟨_,_,rfl,fin ks _ hks (.p (hw.rep ?_)) (.p _)⟩
   match us,vs2,hreps with
   | [],[],_=>exact .tup rfl (fun j v p hv=>by simp at hv)
   | [u],[p],h=>exact h.2 0 u p rfl rfl
   | u::v::us,p::q::ps,h=>
    have:(u::v::us).toArray.size≠1:=by simp
    rw [dif_neg this]
    exact .tup (by simpa using h.1) (fun j x y hx hy=>h.2 j x y (by simpa using hx) hy)
   | [],_::_,h=>exact absurd h.1 (by simp)
   | _::_,[],h=>exact absurd h.1 (by simp)
   | [_],_::_::_,h=>exact absurd h.1 (by simp)
   | _::_::_,[_],h=>exact absurd h.1 (by simp)
  ·match us,hus with
   | u::v::us,hus=>
    have hsz:(u::v::us).toArray.size≠1:=by simp
    refine ⟨.tuple (u::v::us).toArray,_,by rw [dif_neg hsz],fin [] _ (fun k h=>by cases h) (.tup (by simpa using hus.1) fun j v1 p1 hv hp=>?_) (zfp _ _ (xap _) hsc)⟩
    exact RepL.sub (C:=C') (C':={ C' with B:=fun b=>C'.B b∨zbv C' s'.look [] b }) sub (fun _ h=>.inl h) rfl rfl rfl (hus.2 j v1 p1 (by simpa using hv) hp).1
   | [],hus=>exact absurd hus.1 (by simp)
   | [_],hus=>exact absurd hus.1 (by simp)
 cases e with
 | normal=>exact key hq
 | ret=>exact key hq
 | exit id=>exact hq.elim
 | goto l=>exact hq.elim
 | panic c=>exact hq.elim
 | outgrown=>exact hq.elim
theorem ActsE.toA {f:FuncId} {args:List LV} {obj:List (Nat × LObj)} {res:LV} {obj':List (Nat × LObj)} (h:ActsE P f args obj (λ_=>res) (λ_=>obj')):zbk P f args obj res obj':=
 ⟨h.1,h.2.1,h.2.2.1 (none,0),λw C vs fr hl hv=>Calls.mono (h.2.2.2 w C vs fr hl hv) λ_ _ ⟨_,u,C',h1,h2⟩=>⟨u,C',h1,h2⟩⟩
theorem zvR {f:FuncId} {c:AC} {rs:List RV} {n:Nat} (h:zc7 P f=some (c,rs,n)) {args:List LV} {obj:List (Nat × LObj)} {obj':HD->List (Nat × LObj)} {res:HD->LV} (hn:args.length<=n)
  (hsa:scPs (zm obj) args) (hso:scObj (zm obj) obj) (hnf:zsu obj) (hso':∀ i,scObj (zm (obj' i)) (obj' i)) (hfol:∀ i,zcQ (zm (obj' i)) obj)
  (hrun:∀ X:Fx,X.N=n->Run ⟨P,X,none,[]⟩ c (zx args obj) (retE rs res obj obj')):ActsE P f args obj res obj':=by
 unfold zc7 at h
 split at h
 ·rename_i fn hf
  split at h
  ·cases h
  ·rename_i hname
   split at h
   ·rename_i b hb
    split at h
    ·rename_i c' rs' hc hrs
     split at h
     case isFalse=>cases h
     rename_i hgb;injection h with h;injection h with e1 h;injection h with e2 e3;subst e1;subst e2;subst e3;exact zkC hf (by simpa using hname) hb hc hrs hn hgb hsa hso hnf hso' hfol hrun
    ·cases h
   ·cases h
 ·cases h
theorem zzV {f:FuncId} {c:AC} {rs:List RV} {n:Nat} (h:zc7 P f=some (c,rs,n)) {args:List LV} {obj obj':List (Nat × LObj)} {res:LV} (hn:args.length<=n)
  (hsa:scPs (zm obj) args) (hso:scObj (zm obj) obj) (hnf:zsu obj) (hso':scObj (zm obj') obj') (hfol:zcQ (zm obj') obj)
  (hrun:∀ X:Fx,X.N=n->Run ⟨P,X,none,[]⟩ c (zx args obj) (retA rs res obj obj')):zbk P f args obj res obj':=
 (zvR h hn hsa hso hnf (λ_=>hso') (λ_=>hfol) λX hX hG code hc C a w hr=>wpIn_mono (hrun X hX hG code hc C a w hr) λe a1 w1 hq=>by
  obtain ⟨s1,C1,h1,h2⟩:=hq;refine ⟨s1,C1,h1,?_⟩;cases e with
  | normal=>exact ⟨(none,0),h2⟩
  | ret=>exact ⟨(none,0),h2⟩
  | exit i=>exact h2.elim
  | goto l=>exact h2.elim
  | panic c=>exact h2.elim
  | outgrown=>exact h2.elim).toA
end
end Go.Proofs.YtbgckikhhcbmpaaGreat
namespace Go.Proofs.YtbgckikhhcbmpaaGreat
open Go.RowKit
theorem rnE {p:Prop} (h:p:=by simp (disch:=omega) only [qS,qe,xaL,xaM,rn.eq_1,rn.eq_2,lentO.eq_1,lentO.eq_2,newO.eq_1,newO.eq_2,LObj.ren.eq_1,LObj.ren.eq_2,LObj.ren.eq_3,LObj.ren.eq_4,LObj.ren.eq_5,LV.ren.eq_1,LV.ren.eq_3,LV.ren.eq_4,LV.ren.eq_6,LV.ren.eq_7,LV.ren.eq_8,LV.ren.eq_9,LV.ren.eq_10,rens.eq_1,rens.eq_2,zdb,keepO.eq_1,keepO.eq_2,keepG.eq_1,keepG.eq_2,gLV.eq_1,gLV.eq_2,gLV.eq_4,zx,ghO,GB,Nat.reduceAdd,Nat.reduceMul,Nat.reduceEqDiff,Nat.reduceLeDiff,reduceIte,reduceCtorEq,Nat.reduceBEq,Nat.reduceLT]<;>rfl):p:=h
theorem rnD {p:Prop} (h:p:=by simp (disch:=omega) only [qS,qe,xaL,xaM,rn.eq_1,rn.eq_2,lentO.eq_1,lentO.eq_2,newO.eq_1,newO.eq_2,LObj.ren.eq_1,LObj.ren.eq_2,LObj.ren.eq_3,LObj.ren.eq_4,LObj.ren.eq_5,LV.ren.eq_1,LV.ren.eq_3,LV.ren.eq_4,LV.ren.eq_6,LV.ren.eq_7,LV.ren.eq_8,LV.ren.eq_9,LV.ren.eq_10,rens.eq_1,rens.eq_2,zdb,keepO.eq_1,keepO.eq_2,keepG.eq_1,keepG.eq_2,gLV.eq_1,gLV.eq_2,gLV.eq_4,zx,ghO,GB,Nat.reduceAdd,Nat.reduceMul,Nat.reduceEqDiff,Nat.reduceLeDiff,reduceIte,reduceCtorEq,Nat.reduceBEq,Nat.reduceLT]<;>fail):p:=h
theorem rnT {p:Prop} (h:p:=by simp (disch:=omega) only [qS,qe,xaL,xaM,rn.eq_1,rn.eq_2,lentO.eq_1,lentO.eq_2,newO.eq_1,newO.eq_2,LObj.ren.eq_1,LObj.ren.eq_2,LObj.ren.eq_3,LObj.ren.eq_4,LObj.ren.eq_5,LV.ren.eq_1,LV.ren.eq_3,LV.ren.eq_4,LV.ren.eq_6,LV.ren.eq_7,LV.ren.eq_8,LV.ren.eq_9,LV.ren.eq_10,rens.eq_1,rens.eq_2,zdb,keepO.eq_1,keepO.eq_2,keepG.eq_1,keepG.eq_2,gLV.eq_1,gLV.eq_2,gLV.eq_4,zx,ghO,GB,Nat.reduceAdd,Nat.reduceMul,Nat.reduceEqDiff,Nat.reduceLeDiff,reduceIte,reduceCtorEq,Nat.reduceBEq,Nat.reduceLT]<;>(repeat' apply And.intro)<;>first|rfl|trivial):p:=h
theorem rnO {p:Prop} (h:p:=by simp (disch:=omega) only [qS,qe,xaL,xaM,rn.eq_1,rn.eq_2,lentO.eq_1,lentO.eq_2,newO.eq_1,newO.eq_2,LObj.ren.eq_1,LObj.ren.eq_2,LObj.ren.eq_3,LObj.ren.eq_4,LObj.ren.eq_5,LV.ren.eq_1,LV.ren.eq_3,LV.ren.eq_4,LV.ren.eq_6,LV.ren.eq_7,LV.ren.eq_8,LV.ren.eq_9,LV.ren.eq_10,rens.eq_1,rens.eq_2,zdb,keepO.eq_1,keepO.eq_2,keepG.eq_1,keepG.eq_2,gLV.eq_1,gLV.eq_2,gLV.eq_4,zx,ghO,GB,Nat.reduceAdd,Nat.reduceMul,Nat.reduceEqDiff,Nat.reduceLeDiff,reduceIte,reduceCtorEq,Nat.reduceBEq,Nat.reduceLT]<;>(repeat' apply And.intro)<;>first|trivial|exact .inl rfl|exact .inr rfl):p:=h
theorem kpT {p:Prop} (h:p:=by simp (disch:=omega) only [qS,qe,keepO.eq_1,keepO.eq_2,keepG.eq_1,keepG.eq_2,gLV.eq_1,gLV.eq_2,gLV.eq_4,gLV.eq_5,LObj.frozen.eq_1,LObj.frozen.eq_2,LObj.frozen.eq_3,LObj.frozen.eq_4,GB,Nat.reduceAdd,Nat.reduceMul,Nat.reduceEqDiff,Nat.reduceLeDiff,reduceIte,reduceCtorEq,Nat.reduceBEq,Nat.reduceLT]<;>(repeat' apply And.intro)<;>first|rfl|trivial|omega):p:=h
def rn:List (Nat × Nat)->Nat->Nat
 | [],k=>k
 | (a,b)::r,k=>match k == a with|true=>b|false=>rn r k
def lentO (s:St) (m:Nat->Nat):List (Nat × LObj)->Prop
 | []=>True
 | (k,o)::r=>s.look (m k)=some (o.ren m)/\lentO s m r
def newO (s:St) (m:Nat->Nat) (obj:List (Nat × LObj)):List (Nat × LObj)->Prop
 | []=>True
 | (k,_)::r=>((zm obj k).isSome=true\/s.look (m k)=none)/\newO s m obj r
theorem ziE {s:St} {m:Nat->Nat} {obj obj':List (Nat × LObj)} (h1:lentO s m obj) (h2:newO s m obj obj') (h3:(obj'.map λx=>m x.1).Nodup):zsy s m obj obj' where
 old:=by
  have key:∀ l:List (Nat × LObj),lentO s m l->∀ k o,zm l k=some o->s.look (m k)=some (o.ren m):=by
   intro l
   induction l with
   | nil=>intro _ k o h;simp [zm] at h
   | cons x r ih=>
    obtain ⟨j,u⟩:=x;intro hl k o h;simp only [zm] at h
    split at h
    ·rename_i e;subst e;injection h with h;subst h;exact hl.1
    ·exact ih hl.2 k o h
  exact key obj h1
 new:=by
  intro k o hk h0;have key:∀ l:List (Nat × LObj),newO s m obj l->zm l k=some o->s.look (m k)=none:=by
   intro l
   induction l with
   | nil=>intro _ h;simp [zm] at h
   | cons x r ih=>
    obtain ⟨j,u⟩:=x;intro hn h;simp only [zm] at h
    split at h
    ·rename_i e;subst e
     rcases hn.1 with h|h
     ·rw [h0] at h;cases h
     ·exact h
    ·exact ih hn.2 h
  exact key obj' h2 hk
 nd:=h3
section
variable {P:Program} {G:Cfg} {Q:zam} {ts:List (List PV)} {dr:Bool} {K:St->List Ft->Prop} {acc:List Ft} {d:Option Nat} {f:Nat} {args:List AOpd} {af:List Nat} {r:List RO} {s:St} {vs:List LV} {res:LV} {obj obj':List (Nat × LObj)}
theorem zf (l:List (Nat × Nat)) (hf:zbk P f vs obj res obj') (hn:zF dr (zp P ts dr K) r ((s.wrs (zdb (rn l) obj')).set d (res.ren (rn l))) (zT dr acc s ⟨d,.call f,args,none,af⟩ (zdb (rn l) obj')))
  (ha:uns (zd s args)=rens (rn l) vs:=by first|exact rnE|fail)
  (hp:zL (zd s args)=true:=by first|exact rnD|fail)
  (h1:lentO s (rn l) obj:=by first|exact rnT|fail)
  (h2:newO s (rn l) obj obj':=by first|exact rnO|fail)
  (h3:(obj'.map λx=>rn l x.1).Nodup:=by first|decide|(simp only [xaj,xaF];decide)|simp):zp P ts dr K (⟨d,.call f,args,none,af⟩::r) s acc:=
 zjB (rn l) hf ha hp (ziE h1 h2 h3) (zw hn)
end
def zz1 (rs:List RV) (res:LV) (obj obj':List (Nat × LObj)) (s:St):Prop:=RetA rs res obj obj' s\/∃ k e sz env o,Own k e sz s env o/\RetA rs res obj obj' ⟨env,(k,.row e sz [] false)::o,s.tr,s.stop⟩
def retB (rs:List RV) (res:LV) (obj obj':List (Nat × LObj)):zam
 | .normal,s=>zz1 rs res obj obj' s
 | .ret,s=>zz1 rs res obj obj' s
 | .exit _,_=>False
theorem rtN (rs:List RV) (res:LV) (obj obj':List (Nat × LObj)) (s:St):retB rs res obj obj' .normal s=zz1 rs res obj obj' s:=rfl
theorem rtR (rs:List RV) (res:LV) (obj obj':List (Nat × LObj)) (s:St):retB rs res obj obj' .ret s=zz1 rs res obj obj' s:=rfl
theorem zD {P:Program} {f:FuncId} {c:AC} {rs:List RV} {n:Nat} (h:zc7 P f=some (c,rs,n)) {args:List LV} {obj obj':List (Nat × LObj)} {res:LV} (hn:args.length<=n)
  (hsa:scPs (zm obj) args) (hso:scObj (zm obj) obj) (hnf:zsu obj) (hso':scObj (zm obj') obj') (hfol:zcQ (zm obj') obj)
  (hrun:∀ X:Fx,X.N=n->Run ⟨P,X,none,[]⟩ c (zx args obj) (retB rs res obj obj')):zbk P f args obj res obj':=
 zzV h hn hsa hso hnf hso' hfol λX hX hG code hc C a w hr=>
  wpIn_mono (hrun X hX hG code hc C a w hr) λe a1 w1 hq=>by
   obtain ⟨s1,C1,h1,h2⟩:=hq;have key:zz1 rs res obj obj' s1->∃ s2 C2,RelC X C2 s2.get s2.look s2.tr s2.stop a1 w1/\RetA rs res obj obj' s2:=λh=>by
    rcases h with h|⟨k,e,sz,env,o,ho,h⟩
    ·exact ⟨s1,C1,h1,h⟩
    ·obtain ⟨C2,h2⟩:=h1.own ho;exact ⟨⟨env,(k,.row e sz [] false)::o,s1.tr,s1.stop⟩,C2,h2,h⟩
   cases e with
   | normal=>obtain ⟨s2,C2,h3,h4⟩:=key h2;exact ⟨s2,C2,h3,h4⟩
   | ret=>obtain ⟨s2,C2,h3,h4⟩:=key h2;exact ⟨s2,C2,h3,h4⟩
   | exit i=>exact h2.elim
   | goto l=>exact h2.elim
   | panic c=>exact h2.elim
   | outgrown=>exact h2.elim
theorem RetA.mk1 {t:Nat} {res:LV} {obj obj':List (Nat × LObj)} {s:St} (h1:keepO s obj':=by first|exact kpT|fail) (h2:keepG s obj:=by first|exact kpT|fail) (h3:s.get t=res:=by first|exact kpT|fail) (h4:scP (zm obj') res:=by first|exact kpT|fail):RetA [.tmp t] res obj obj' s:=
 ⟨h1,h2,True,[res],by simp only [resL,h3];rfl,trivial,.inl ⟨rfl,h4⟩⟩
theorem RetA.mk0 {obj obj':List (Nat × LObj)} {s:St} (h1:keepO s obj':=by first|exact kpT|fail) (h2:keepG s obj:=by first|exact kpT|fail):RetA [] (.p (.tup [])) obj obj' s:=
 ⟨h1,h2,True,[],rfl,trivial,.inr (.inl ⟨True,[],[],.tup [],by simp only [toPVs,toPV.go],trivial,.refl _,rfl,λk h=>by cases h⟩)⟩
section
variable (m:Nat->Nat)
theorem zxG:zdb m []=[]:=rfl
theorem ztw (k:Nat) (o:LObj) (r:List (Nat × LObj)):zdb m ((k,o)::r)=(m k,o.ren m)::zdb m r:=rfl
theorem lr_p (v:PV):(LV.p v).ren m=.p v:=by rw [LV.ren]
theorem lr_lp (k o:Nat):(LV.lp k o).ren m=.lp (m k) o:=by rw [LV.ren]
theorem zBo (k n:Nat):(LV.row k n).ren m=.row (m k) n:=by rw [LV.ren]
theorem lr_ep (k n i o:Nat):(LV.ep k n i o).ren m=.ep (m k) n i o:=by rw [LV.ren]
theorem lr_lm (k:Nat):(LV.lm k).ren m=.lm (m k):=by rw [LV.ren]
theorem zBp (e:TypeId) (sz:Nat) (xs:List PV) (fz:Bool):(LObj.row e sz xs fz).ren m=.row e sz xs fz:=rfl
theorem lo_mp (es:List (PV × PV)) (fz:Bool):(LObj.mp es fz).ren m=.mp es fz:=rfl
theorem zBq (cs:List LV) (fz:Bool):(LObj.box cs fz).ren m=.box (rens m cs) fz:=rfl
theorem rs0:rens m []=[]:=by rw [rens]
theorem rs1 (q:LV) (r:List LV):rens m (q::r)=q.ren m::rens m r:=by rw [rens]
end
theorem zAB (k:Nat):rn [] k=k:=rfl
theorem zxH (a b:Nat) (r:List (Nat × Nat)) (k:Nat):rn ((a,b)::r) k=match k == a with|true=>b|false=>rn r k:=rfl
def qN:=And.intro (And.intro (And.intro @zxG @ztw) (And.intro (And.intro @lr_p @lr_lp) (And.intro @zBo (And.intro @lr_ep @lr_lm)))) (And.intro (And.intro (And.intro @zBp @lo_mp) (And.intro @zBq (And.intro @rs0 @rs1))) (And.intro @zAB @zxH))
theorem zaQ {P:Program} {ts:List (List PV)} {dr:Bool} {K:St->List Ft->Prop} {acc:List Ft} {d:Option Nat} {op:AOp} {args:List AOpd} {gd:Option (Nat × Bool)} {af:List Nat} {r:List RO} {s:St} (q:PV)
  (hc:gOf s gd=some false) (hn:zp P ts dr K r (s.set d (fin gd false (.p q))) (zT dr acc s ⟨d,op,args,gd,af⟩ [])):zp P ts dr K (⟨d,op,args,gd,af⟩::r) s acc:=
 .inl ⟨_,_,.callN hc,hn⟩
def ztD (R:LV->LV->Prop) (s:St):List (Nat × LV)->Prop
 | []=>True
 | (t,v)::r=>(v=s.get t\/R (s.get t) v)/\ztD R s r
theorem zgr {R:LV->LV->Prop} {s:St}:∀ {l:List (Nat × LV)},ztD R s l->∀ t,zS l t=s.get t\/R (s.get t) (zS l t)\/zS l t=.any
 | [],_,t=>.inr (.inr rfl)
 | (j,v)::r,h,t=>by
  simp only [zS]
  split
  ·rename_i e;subst e;exact h.1.imp id .inl
  ·exact zgr h.2 t
def ztC (R:LObj->LObj->Prop) (s:St):List (Nat × LObj)->Prop
 | []=>True
 | (j,o)::r=>(s.look j=some o\/∃ o0,s.look j=some o0/\R o0 o)/\ztC R s r
theorem ze7 {R:LObj->LObj->Prop} {s:St}:∀ {l:List (Nat × LObj)},ztC R s l->∀ j o,zm l j=some o->s.look j=some o\/∃ o0,s.look j=some o0/\R o0 o
 | [],_,j,o,h=>by simp [zm] at h
 | (i,u)::r,h,j,o,ho=>by
  simp only [zm] at ho
  split at ho
  ·rename_i e;subst e;injection ho with ho;subst ho;exact h.1
  ·exact ze7 h.2 j o ho
section
variable {X:Fx} {C:Ctx} {a:Act} {w:World} {s:St} {k e sz:Nat} {xs:List PV} {a0:Option Addr} {c0:Nat} {env:List (Nat × LV)} {obj:List (Nat × LObj)}
def Mlt (r q p p':PV):Prop:=mltC r q p p'\/∃ cs ds,p=.agg cs/\p'=.agg ds/\zqM r q cs ds
theorem zyr {B:Nat->Prop} {v:Value} {n:Nat} {q p p':PV} (hq:Rep w B (.slice a0 n c0) q) (h:Mlt (.rs a0 n c0) q p p') (hv:Rep w B v p):Rep w B v p':=by
 rcases h with h|⟨cs,ds,rfl,rfl,h⟩
 ·exact ziv hq h hv
 ·cases hv with
  | agg h1 h2=>
   refine .agg (by rw [zgA h];exact h1) λj u p' hu hp'=>?_
   obtain ⟨p,g1,g2⟩:=ziu h j p' hp';exact ziv hq g2 (h2 j u p hu g1)
def meltR (r q:PV) (x x':LV):Prop:=∃ p p',x=.p p/\x'=.p p'/\Mlt r q p p'
end
section
variable {G:Cfg} {cd:AC} {s:St} {Q:zam} {k e sz:Nat} {xs:List PV} {a0:Option Addr} {c0:Nat}
end
theorem zM {k j:Nat} {o x:LObj} (h:zm [(k,o)] j=some x):j=k/\x=o:=by
 simp only [zm] at h
 split at h
 ·rename_i e;injection h with h;exact ⟨e,h.symm⟩
 ·cases h
theorem z8 (k:Nat) (o:LObj):zm [(k,o)] k=some o:=by simp [zm]
def lit1 (k n:Nat) (r:PV) (q:LV) (p:PV):Prop:=q=.p p\/(q=.row k n/\p=r)
def zyx (k n:Nat) (r:PV):List LV->List PV->Prop
 | [],[]=>True
 | q::qs,p::ps=>lit1 k n r q p/\zyx k n r qs ps
 | _,_=>False
def lit2 (k n:Nat) (r:PV) (q:LV) (p:PV):Prop:=lit1 k n r q p\/∃ cs ps,q=.agg cs/\p=.agg ps/\zyx k n r cs ps
section
variable {X:Fx} {C:Ctx} {g:Nat->LV} {look:Nat->Option LObj} {tr:List (List PV)} {stop:Bool} {a:Act} {w:World} {P:Program} {s:St} {k e sz n c0:Nat} {xs:List PV} {a0:Option Addr}
theorem zmY (hc:∀ fz,look k=some (.row e sz xs fz)->C.cur k=.slice a0 n c0) {fz:Bool} (hk:look k=some (.row e sz xs fz)) (hn:n=xs.length) {v:Value} {q:LV} {p:PV} (h:lit1 k n (.rs a0 n c0) q p) (hq:RepL w C look v q):Rep w C.B v p:=by
 rcases h with rfl|⟨rfl,rfl⟩
 ·exact ze hq
 ·rw [zcn hq _ _ _ _ hk hn.symm,hc _ hk];exact .rs _ _ _
theorem zj2 {r:PV}:∀ {cs:List LV} {ps:List PV},zyx k n r cs ps->ps.length=cs.length/\∀ (j:Nat) (q:LV) (p:PV),cs[j]?=some q->ps[j]?=some p->lit1 k n r q p
 | [],[],_=>⟨rfl,λj q p h=>by simp at h⟩
 | q::qs,p::ps,h=>by
  obtain ⟨h1,h2⟩:=zj2 h.2;refine ⟨by simp [h1],λj x y hx hy=>?_⟩
  cases j with
  | zero=>simp at hx hy;subst hx;subst hy;exact h.1
  | succ j=>exact h2 j x y (by simpa using hx) (by simpa using hy)
 | [],_::_,h=>h.elim
 | _::_,[],h=>h.elim
end
theorem zp3 {P:Program} {K:St->List Ft->Prop} {o:RO} {r:List RO} {s:St} {acc:List Ft} (h:zp P [] false K (o::r) s acc):zdZ P s o λs'=>zp P [] false K r s' acc:=by
 rcases h with ⟨v,wr,h1,h2⟩|⟨t,ks,h1,h2⟩|⟨_,ng,R,h1,h2⟩|⟨_,S,h1,h2⟩
 ·exact λX C a w ops oper ro K' Q hc hM hr hK=>znG h1 X C a w ops oper ro K' Q hc hM hr λs' C' a' w' e hr'=>hK s' C' a' w' (by rw [e];exact h2) hr'
 ·obtain ⟨_,_,_,_,_,_,_,_,_,_,_,post,hts'⟩:=h1;simp at hts'
 ·exact λX C a w ops oper ro K' Q hc hM hr hK=>zgJ h1 hc rfl hr λb hb C' a' w' hr'=>hK _ C' a' w' (h2 b hb) (by rw [(zV _ _ _).1,(zV _ _ _).2];exact hr')
 ·exact λX C a w ops oper ro K' Q hc hM hr hK=>h1 X C a w ops oper ro K' Q hc hM hr λs' C' a' w' e hr'=>hK s' C' a' w' (h2 s' e) hr'
theorem zag {P:Program} {K:St->List Ft->Prop} {o:RO} {r:List RO} {s:St} {acc:List Ft} {S:St->Prop} (hg:zef s S) (h:∀ s1,S s1->zp P [] false K (o::r) s1 acc):zp P [] false K (o::r) s acc:=
 zem (S:=λs'=>zp P [] false K r s' acc) (znH hg λs1 h1=>zp3 (h s1 h1)) λ_ h=>h
theorem ze6 {G:Cfg} {cd:AC} {s:St} {Q:zam} {S:St->Prop} (hg:zef s S) (h:∀ s1,S s1->Run G cd s1 Q):Run G cd s Q:=λhG code hc C a w hr=>
 let ⟨s1,C1,h1,h2⟩:=hg G.X C a w hG.mok hr
 h s1 h1 hG code hc C1 a w h2
theorem zaz {s:St} (t:Nat) (v':PV) {pre:Prop} {v:PV} {ks:List Nat} (ht:toPV s.look 4 (s.get t)=some (pre,v,ks)) (hp:pre) (hw:Weak v v'):zef s λs1=>s1=(s.wrs (frzs s.look ks)).set (some t) (.p v'):=λX C a w hM hr=>by
 obtain ⟨C',h'⟩:=hr.pub hM t ht hp hw;exact ⟨_,C',rfl,by rw [(zV _ _ _).1,(zV _ _ _).2,(za8 _ _).1,(za8 _ _).2];exact h'⟩
def pin2R (k n:Nat) (r:PV) (q q':LV):Prop:=∃ p,lit2 k n r q p/\q'=.p p
def zyl (k n:Nat) (r:PV):List LV->List LV->Prop
 | [],[]=>True
 | q::qs,q'::qs'=>(q'=q\/(q=.row k n/\q'=.p r))/\zyl k n r qs qs'
 | _,_=>False
theorem zmK {k n:Nat} {r:PV}:∀ {l l':List LV},zyl k n r l l'->l'.length=l.length/\∀ (j:Nat) (q':LV),l'[j]?=some q'->∃ q,l[j]?=some q/\(q'=q\/(q=.row k n/\q'=.p r))
 | [],[],_=>⟨rfl,λj q h=>by simp at h⟩
 | q::qs,q'::qs',h=>by
  obtain ⟨h1,h2⟩:=zmK h.2;refine ⟨by simp [h1],λj p hp=>?_⟩
  cases j with
  | zero=>simp at hp;subst hp;exact ⟨q,rfl,h.1⟩
  | succ j=>obtain ⟨x,g1,g2⟩:=h2 j p (by simpa using hp);exact ⟨x,by simpa using g1,g2⟩
 | [],_::_,h=>h.elim
 | _::_,[],h=>h.elim
def pinO (k n:Nat) (r:PV) (o o':LObj):Prop:=∃ cs cs' fz,o=.box cs fz/\o'=.box cs' fz/\zyl k n r cs cs'
def zCD (k e sz:Nat) (xs:List PV) (a0:Option Addr) (c0:Nat) (s:St) (env:List (Nat × LV)) (obj:List (Nat × LObj)):Prop:=
 ztD (pin2R k xs.length (.rs a0 xs.length c0)) s env/\ztC (pinO k xs.length (.rs a0 xs.length c0)) s obj/\scEnv (zm ((k,.hrow e sz xs a0 c0)::obj)) env/\scObj (zm ((k,.hrow e sz xs a0 c0)::obj)) obj
theorem zym {w:World} {C:Ctx} {l l':Nat->Option LObj} {k n e sz c0:Nat} {xs:List PV} {a0:Option Addr} {fz:Bool} (hk:l k=some (.row e sz xs fz)) (hn:n=xs.length) (hc:C.cur k=.slice a0 n c0)
  (hrows:∀ j e1 sz1 xs1 fz1 e' sz' xs' fz',l j=some (.row e1 sz1 xs1 fz1)->l' j=some (.row e' sz' xs' fz')->e'=e1/\sz'=sz1/\xs'.length=xs1.length) {v:Value} {q q':LV} (hs:LV.Sc l q) (h:q'=q\/(q=.row k n/\q'=.p (.rs a0 n c0))) (hr:RepL w C l v q):RepL w C l' v q':=by
 rcases h with rfl|⟨rfl,rfl⟩
 ·exact hr.desc hrows hs
 ·rw [zcn hr _ _ _ _ hk hn.symm,hc];exact .p (.rs _ _ _)
theorem zrh {s:St} (k:Nat) {e sz:Nat} {xs:List PV} (hk:s.look k=some (.row e sz xs false)) (env:Option Addr->Nat->List (Nat × LV)) (obj:Option Addr->Nat->List (Nat × LObj)) (hp:∀ a0 c0,zCD k e sz xs a0 c0 s (env a0 c0) (obj a0 c0)) :
  zef s λs1=>∃ a0 c0,s1=⟨env a0 c0,(k,.hrow e sz xs a0 c0)::obj a0 c0,s.tr,s.stop⟩:=by
 intro X C a w hM h;have hob:=h.obj k _ hk;have hcur:∃ a0 c0,C.cur k=.slice a0 xs.length c0:=by
  obtain ⟨us,how,_⟩:=hob
  rcases how.2 with ⟨f1,f2⟩|⟨gb,cap,cur,f1,_⟩
  ·exact ⟨none,0,by rw [f1,f2]⟩
  ·exact ⟨_,_,f1⟩
 obtain ⟨a0,c0,hc⟩:=hcur;obtain ⟨he,ho,hse,hso⟩:=hp a0 c0;refine ⟨_,C,⟨a0,c0,rfl⟩,?_⟩;show RelC X C (zS (env a0 c0)) (zm ((k,.hrow e sz xs a0 c0)::obj a0 c0)) s.tr s.stop a w;have was:∀ j o,zm ((k,.hrow e sz xs a0 c0)::obj a0 c0) j=some o->(j=k/\o=.hrow e sz xs a0 c0)\/(j≠k/\∃ o0,s.look j=some o0/\(o0=o\/pinO k xs.length (.rs a0 xs.length c0) o0 o)):=λj o hj=>by
  simp only [zm] at hj
  split at hj
  ·rename_i ej;injection hj with hj;exact .inl ⟨ej,hj.symm⟩
  ·rename_i ej
   rcases ze7 ho j o hj with h3|⟨o0,h3,h4⟩
   ·exact .inr ⟨ej,o,h3,.inl rfl⟩
   ·exact .inr ⟨ej,o0,h3,.inr h4⟩
 have hrows:∀ j e1 sz1 xs1 fz1 e' sz' xs' fz',s.look j=some (.row e1 sz1 xs1 fz1)->zm ((k,.hrow e sz xs a0 c0)::obj a0 c0) j=some (.row e' sz' xs' fz')->e'=e1/\sz'=sz1/\xs'.length=xs1.length:=λj e1 sz1 xs1 fz1 e' sz' xs' fz' h1 h2=>by
  rcases was j _ h2 with ⟨_,h3⟩|⟨_,o0,h3,rfl|⟨cs,cs',f,rfl,h5,_⟩⟩
  ·cases h3
  ·rw [h1] at h3;injection h3 with h3;injection h3 with f1 f2 f3 f4;subst f1;subst f2;subst f3;exact ⟨rfl,rfl,rfl⟩
  ·cases h5
 refine h.desc (λj o hj=>?_) (λj o hj=>?_) (λt=>⟨?_,zdh hse t⟩)
 ·rcases was j o hj with ⟨rfl,rfl⟩|⟨_,o0,h3,rfl|⟨cs,cs',f,rfl,rfl,_⟩⟩
  ·exact ⟨_,hk,rfl,rfl⟩
  ·exact ⟨_,h3,rfl,rfl⟩
  ·exact ⟨_,h3,rfl,rfl⟩
 ·have sc:j≠k->LObj.Sc (zm ((k,.hrow e sz xs a0 c0)::obj a0 c0)) o:=λej=>by
   simp only [zm,if_neg ej] at hj;exact zaZ hso j o hj
  rcases was j o hj with ⟨rfl,rfl⟩|⟨ej,o0,h3,rfl|⟨cs,cs',f,rfl,rfl,h6⟩⟩
  ·exact ⟨⟨hob,hc⟩,trivial⟩
  ·exact ⟨(h.obj j _ h3).look (h.objs j _ h3) hrows,sc ej⟩
  ·obtain ⟨arr,ty,g1,g2,g3⟩:=h.obj j _ h3;have hsc:=h.objs j _ h3;obtain ⟨m1,m2⟩:=zmK h6;refine ⟨⟨arr,ty,g1,by omega,λi v q' hv hq=>?_⟩,sc ej⟩
   obtain ⟨q,i1,i2⟩:=m2 i q' hq;exact zym hk rfl hc hrows (hsc i q i1) i2 (g3 i v q hv i1)
 ·rcases zgr he t with h1|⟨p,h1,h2⟩|h1
  ·rw [h1];exact (h.env t).desc hrows (h.envs t)
  ·rw [h2];have hr:=h.env t
   rcases h1 with h1|⟨cs,ps',h1,rfl,h3⟩
   ·exact .p (zmY (λ_ _=>hc) hk rfl h1 hr)
   ·rw [h1] at hr;obtain ⟨l1,l2⟩:=zj2 h3;generalize zbz X a t=v at hr;cases hr with
    | agg g1 g2=>
     refine .p (.agg (by omega) λj u x hu hx=>?_)
     have hj:j < cs.length:=by rw [<-l1];exact (xaa.1 hx).1
     exact zmY (λ_ _=>hc) hk rfl (l2 j _ x (xac hj) hx) (g2 j u _ hu (xac hj))
  ·rw [h1];exact .any _
def mltB (r q:PV):List LV->List LV->Prop
 | [],[]=>True
 | x::xs,y::ys=>(y=x\/(x=.p r/\y=.p q))/\mltB r q xs ys
 | _,_=>False
theorem zqN {r q:PV}:∀ {l l':List LV},mltB r q l l'->l'.length=l.length/\∀ (j:Nat) (y:LV),l'[j]?=some y->∃ x,l[j]?=some x/\(y=x\/(x=.p r/\y=.p q))
 | [],[],_=>⟨rfl,λj q h=>by simp at h⟩
 | q::qs,q'::qs',h=>by
  obtain ⟨h1,h2⟩:=zqN h.2;refine ⟨by simp [h1],λj p hp=>?_⟩
  cases j with
  | zero=>simp at hp;subst hp;exact ⟨q,rfl,h.1⟩
  | succ j=>obtain ⟨x,g1,g2⟩:=h2 j p (by simpa using hp);exact ⟨x,by simpa using g1,g2⟩
 | [],_::_,h=>h.elim
 | _::_,[],h=>h.elim
def zwy (r q:PV) (o o':LObj):Prop:=∃ cs cs' fz,o=.box cs fz/\o'=.box cs' fz/\mltB r q cs cs'
def zzY (k e sz m:Nat) (xs:List PV) (a0:Option Addr) (c0:Nat) (s:St) (env:List (Nat × LV)) (obj:List (Nat × LObj)):Prop:=
 ztD (meltR (.rs a0 m c0) (.sl sz (xs.take m))) s env/\ztC (zwy (.rs a0 m c0) (.sl sz (xs.take m))) s obj/\scEnv (zm ((k,.row e sz xs true)::obj)) env/\scObj (zm ((k,.row e sz xs true)::obj)) obj
theorem ztz {w:World} {B:Nat->Prop} {a0:Option Addr} {n m c0 sz:Nat} {xs:List PV} (h:Rep w B (.slice a0 n c0) (.sl sz xs)) (hm:m<=xs.length):Rep w B (.slice a0 m c0) (.sl sz (xs.take m)):=by
 cases h with
 | sl0=>
  have:m=0:=by simpa using hm
  subst this;exact .sl0
 | sle h=>
  have:m=0:=by simpa using hm
  subst this;exact .sle h
 | sl u h1 h2 h3 h4 h5 h6 h7 h8=>
  have get:∀ (i:Nat) (x:PV),(xs.take m)[i]?=some x->xs[i]?=some x:=λi x hx=>by
   rw [xaQ] at hx
   split at hx<;>first|exact hx|cases hx
  exact .sl u h1 h2 (by rw [xan];omega) (by omega) h5 (λi x hx=>h6 i x (get i x hx)) (λi x j p hx hp=>h7 i x j p (get i x hx) hp) (λi x j p hx hp=>h8 i x j p (get i x hx) hp)
theorem zlG {s:St} (k m:Nat) {e sz c0:Nat} {xs:List PV} {a0:Option Addr} (env:List (Nat × LV)) (obj:List (Nat × LObj)) (hk:s.look k=some (.hrow e sz xs a0 c0)) (hm:m<=xs.length) (hp:zzY k e sz m xs a0 c0 s env obj) :
  zef s λs1=>s1=⟨env,(k,.row e sz xs true)::obj,s.tr,s.stop⟩:=by
 intro X C a w hM h;obtain ⟨he,ho,hse,hso⟩:=hp;obtain ⟨hob,hc⟩:=h.obj k _ hk;have h1:=h.unh hk;have h2:=h1.freeze (d:=k) (o:=.row e sz xs false) (zk _ _ _) rfl hM
 let l2:=upd (upd s.look k (some (LObj.row e sz xs false))) k (some (LObj.row e sz xs true))
 let C':Ctx:={ C with B:=λb=>C.B b\/blk C k (.row e sz xs false)=some b }
 have h2:RelC X C' s.get l2 s.tr s.stop a w:=h2;have hsl:Rep w C'.B (.slice a0 m c0) (.sl sz (xs.take m)):=ztz (zhH h hk) hm;refine ⟨_,C',rfl,?_⟩;show RelC X C' (zS env) (zm ((k,.row e sz xs true)::obj)) s.tr s.stop a w;have was:∀ j o,zm ((k,.row e sz xs true)::obj) j=some o->(j=k/\o=.row e sz xs true)\/(j≠k/\∃ o0,l2 j=some o0/\(o0=o\/zwy (.rs a0 m c0) (.sl sz (xs.take m)) o0 o)):=λj o hj=>by
  simp only [zm] at hj
  split at hj
  ·rename_i ej;injection hj with hj;exact .inl ⟨ej,hj.symm⟩
  ·rename_i ej;have e2:l2 j=s.look j:=(zA _ _ ej).trans (zA _ _ ej)
   rcases ze7 ho j o hj with h3|⟨o0,h3,h4⟩
   ·exact .inr ⟨ej,o,by rw [e2];exact h3,.inl rfl⟩
   ·exact .inr ⟨ej,o0,by rw [e2];exact h3,.inr h4⟩
 have hrows:∀ j e1 sz1 xs1 fz1 e' sz' xs' fz',l2 j=some (.row e1 sz1 xs1 fz1)->zm ((k,.row e sz xs true)::obj) j=some (.row e' sz' xs' fz')->e'=e1/\sz'=sz1/\xs'.length=xs1.length:=λj e1 sz1 xs1 fz1 e' sz' xs' fz' f1 f2=>by
  rcases was j _ f2 with ⟨rfl,h3⟩|⟨_,o0,h3,rfl|⟨cs,cs',f,rfl,h5,_⟩⟩
  ·simp only [l2,zk] at f1;injection f1 with f1;injection f1 with g1 g2 g3 g4;injection h3 with i1 i2 i3 i4;subst g1;subst g2;subst g3;subst i1;subst i2;subst i3;exact ⟨rfl,rfl,rfl⟩
  ·rw [f1] at h3;injection h3 with h3;injection h3 with g1 g2 g3 g4;subst g1;subst g2;subst g3;exact ⟨rfl,rfl,rfl⟩
  ·cases h5
 refine h2.desc (λj o hj=>?_) (λj o hj=>?_) (λt=>⟨?_,zdh hse t⟩)
 ·rcases was j o hj with ⟨rfl,rfl⟩|⟨_,o0,h3,rfl|⟨cs,cs',f,rfl,rfl,_⟩⟩
  ·exact ⟨_,zk _ _ _,rfl,rfl⟩
  ·exact ⟨_,h3,rfl,rfl⟩
  ·exact ⟨_,h3,rfl,rfl⟩
 ·have sc:j≠k->LObj.Sc (zm ((k,.row e sz xs true)::obj)) o:=λej=>by
   simp only [zm,if_neg ej] at hj;exact zaZ hso j o hj
  rcases was j o hj with ⟨rfl,rfl⟩|⟨ej,o0,h3,rfl|⟨cs,cs',f,rfl,rfl,h6⟩⟩
  ·exact ⟨h2.obj j (.row e sz xs true) (zk _ _ _),trivial⟩
  ·exact ⟨(h2.obj j _ h3).look (h2.objs j _ h3) hrows,sc ej⟩
  ·obtain ⟨arr,ty,g1,g2,g3⟩:=h2.obj j _ h3;have hsc:=h2.objs j _ h3;obtain ⟨m1,m2⟩:=zqN h6;refine ⟨⟨arr,ty,g1,by omega,λi v y hv hy=>?_⟩,sc ej⟩
   obtain ⟨x,i1,rfl|⟨rfl,rfl⟩⟩:=m2 i y hy
   ·exact (g3 i v _ hv i1).desc hrows (hsc i _ i1)
   ·have:=ze (g3 i v _ hv i1);cases this;exact .p hsl
 ·rcases zgr he t with h3|⟨p,p',h3,h4,h5⟩|h3
  ·rw [h3];exact (h2.env t).desc hrows (h2.envs t)
  ·rw [h4];have:=h2.env t;rw [h3] at this;exact .p (zyr hsl h5 (ze this))
  ·rw [h3];exact .any _
def Wk (p q:PV):Prop:=∀ (w:World) (B:Nat->Prop) (v:Value),Rep w B v p->Rep w B v q
theorem Wk.refl (p:PV):Wk p p:=λ_ _ _ h=>h
theorem Wk.nilsl (sz:Nat):Wk .nilsl (.sl sz []):=λ_ _ _ h=>by cases h;exact .sl0
theorem Wk.of {p q:PV} (h:Weak p q):Wk p q:=λ_ _ _ hr=>h.rep hr
def Wks:List PV->List PV->Prop
 | [],[]=>True
 | p::ps,q::qs=>Wk p q/\Wks ps qs
 | _,_=>False
theorem Wks.at:∀ {ps qs:List PV},Wks ps qs->ps.length=qs.length/\∀ (j:Nat) (p q:PV),ps[j]?=some p->qs[j]?=some q->Wk p q
 | [],[],_=>⟨rfl,λj p q h=>by simp at h⟩
 | p::ps,q::qs,h=>by
  obtain ⟨h1,h2⟩:=Wks.at h.2;refine ⟨by simp [h1],λj x y hx hy=>?_⟩
  cases j with
  | zero=>simp at hx hy;subst hx;subst hy;exact h.1
  | succ j=>exact h2 j x y (by simpa using hx) (by simpa using hy)
 | [],_::_,h=>h.elim
 | _::_,[],h=>h.elim
theorem Wks.refl:∀ ps:List PV,Wks ps ps
 | []=>trivial
 | p::ps=>⟨Wk.refl p,Wks.refl ps⟩
theorem Wks.app:∀ {ps qs ps' qs':List PV},Wks ps qs->Wks ps' qs'->Wks (ps++ps') (qs++qs')
 | [],[],_,_,_,h=>h
 | _::_,_::_,_,_,h,k=>⟨h.1,Wks.app h.2 k⟩
 | [],_::_,_,_,h,_=>h.elim
 | _::_,[],_,_,h,_=>h.elim
theorem Wk.agg {ps qs:List PV} (h:Wks ps qs):Wk (.agg ps) (.agg qs):=λw B v hr=>by
 obtain ⟨h1,h2⟩:=h.at;cases hr with
 | agg e1 e2=>
  refine .agg (by omega) λj u y hu hy=>?_
  have hj:j < ps.length:=by rw [h1];exact (xaa.1 hy).1
  exact h2 j _ y (xac hj) hy w B u (e2 j u _ hu (xac hj))
theorem Wk.tup {ps qs:List PV} (h:Wks ps qs):Wk (.tup ps) (.tup qs):=λw B v hr=>by
 obtain ⟨h1,h2⟩:=h.at;cases hr with
 | tup e1 e2=>
  refine .tup (by omega) λj u y hu hy=>?_
  have hj:j < ps.length:=by rw [h1];exact (xaa.1 hy).1
  exact h2 j _ y (xac hj) hy w B u (e2 j u _ hu (xac hj))
def Wkr:List PV->List PV->Prop
 | [],[]=>True
 | p::ps,q::qs=>Wks p.cells q.cells/\Wkr ps qs
 | _,_=>False
theorem Wkr.at:∀ {ps qs:List PV},Wkr ps qs->ps.length=qs.length/\∀ (j:Nat) (p q:PV),ps[j]?=some p->qs[j]?=some q->Wks p.cells q.cells
 | [],[],_=>⟨rfl,λj p q h=>by simp at h⟩
 | p::ps,q::qs,h=>by
  obtain ⟨h1,h2⟩:=Wkr.at h.2;refine ⟨by simp [h1],λj x y hx hy=>?_⟩
  cases j with
  | zero=>simp at hx hy;subst hx;subst hy;exact h.1
  | succ j=>exact h2 j x y (by simpa using hx) (by simpa using hy)
 | [],_::_,h=>h.elim
 | _::_,[],h=>h.elim
theorem Wkr.refl:∀ ps:List PV,Wkr ps ps
 | []=>trivial
 | p::ps=>⟨Wks.refl _,Wkr.refl ps⟩
theorem Wkr.app:∀ {ps qs ps' qs':List PV},Wkr ps qs->Wkr ps' qs'->Wkr (ps++ps') (qs++qs')
 | [],[],_,_,_,h=>h
 | _::_,_::_,_,_,h,k=>⟨h.1,Wkr.app h.2 k⟩
 | [],_::_,_,_,h,_=>h.elim
 | _::_,[],_,_,h,_=>h.elim
theorem Wkr.map {α:Type} {f g:α->PV}:∀ {l:List α},(∀ x ∈ l,Wks (f x).cells (g x).cells)->Wkr (l.map f) (l.map g)
 | [],_=>trivial
 | x::l,h=>⟨h x (by simp),Wkr.map λy hy=>h y (by simp [hy])⟩
theorem Wk.sl {sz:Nat} {ps qs:List PV} (h:Wkr ps qs):Wk (.sl sz ps) (.sl sz qs):=λw B v hr=>by
 obtain ⟨h1,h2⟩:=h.at;cases hr with
 | sl0=>
  have:qs=[]:=xay (by simpa using h1.symm)
  subst this;exact .sl0
 | sle hc=>
  have:qs=[]:=xay (by simpa using h1.symm)
  subst this;exact .sle hc
 | sl u g1 g2 g3 g4 g5 g6 g7 g8=>
  have get:∀ (i:Nat) (y:PV),qs[i]?=some y->∃ x,ps[i]?=some x/\Wks x.cells y.cells:=λi y hy=>by
   have hi:i < ps.length:=by rw [h1];exact (xaa.1 hy).1
   exact ⟨_,xac hi,h2 i _ y (xac hi) hy⟩
  have cell:∀ (i:Nat) (y:PV) (j:Nat) (q:PV),qs[i]?=some y->y.cells[j]?=some q->∃ x p,ps[i]?=some x/\x.cells[j]?=some p/\Wk p q:=λi y j q hy hq=>by
   obtain ⟨x,k1,k2⟩:=get i y hy;obtain ⟨e1,e2⟩:=k2.at;have hj:j < x.cells.length:=by rw [e1];exact (xaa.1 hq).1
   exact ⟨x,_,k1,xac hj,e2 j _ q (xac hj) hq⟩
  refine .sl u g1 g2 (by omega) g4 g5 (λi y hy=>?_) (λi y j q hy hq=>?_) (λi y j q hy hq=>?_)
  ·obtain ⟨x,k1,k2⟩:=get i y hy;rw [<-k2.at.1];exact g6 i x k1
  ·obtain ⟨x,p,k1,k2,_⟩:=cell i y j q hy hq;exact g7 i x j p k1 k2
  ·obtain ⟨x,p,k1,k2,k3⟩:=cell i y j q hy hq;exact k3 w B _ (g8 i x j p k1 k2)
section
variable {X:Fx} {C:Ctx} {g:Nat->LV} {look:Nat->Option LObj} {tr:List (List PV)} {stop:Bool} {a:Act} {w:World} {P:Program} {s:St}
end
section
variable {P:Program} {G:Cfg} {Q:zam} {ts:List (List PV)} {dr:Bool} {K:St->List Ft->Prop} {acc:List Ft} {d:Option Nat} {f:Nat} {args:List AOpd} {af:List Nat} {r:List RO} {s:St} {vs:List LV} {res:LV} {obj obj':List (Nat × LObj)}
theorem zay (l:List (Nat × Nat)) {fs cs us:List LV} (hf:zbk P f vs obj res obj') (hn:zF dr (zp P ts dr K) r ((s.wrs (zdb (rn l) obj')).set d (res.ren (rn l))) (zT dr acc s ⟨d,.callv,args,none,af⟩ (zdb (rn l) obj')))
  (hu:uns (zd s args)=.fn (.func f) fs cs::us:=by first|exact rnE|fail)
  (ha:fs++us++cs=rens (rn l) vs:=by first|exact rnE|fail)
  (hp:zL (zd s args)=true:=by first|exact rnD|fail)
  (h1:lentO s (rn l) obj:=by first|exact rnT|fail)
  (h2:newO s (rn l) obj obj':=by first|exact rnO|fail)
  (h3:(obj'.map λx=>rn l x.1).Nodup:=by first|decide|(simp only [xaj,xaF];decide)|simp):zp P ts dr K (⟨d,.callv,args,none,af⟩::r) s acc:=
 znS (rn l) hf hu ha hp (ziE h1 h2 h3) (zw hn)
theorem znT (l:List (Nat × Nat)) (hf:zbk P f vs obj res obj') (hn:zp P ts dr K r ((s.wrs (zdb (rn l) obj')).set d (res.ren (rn l))) (zT dr acc s ⟨d,.call f,args,none,af⟩ (zdb (rn l) obj')))
  (ha:uns (zd s args)=rens (rn l) vs:=by first|exact rnE|fail)
  (hp:zL (zd s args)=true:=by first|exact rnD|fail)
  (h1:lentO s (rn l) obj:=by first|exact rnT|fail)
  (h2:newO s (rn l) obj obj':=by first|exact rnO|fail)
  (h3:(obj'.map λx=>rn l x.1).Nodup:=by first|decide|(simp only [xaj,xaF];decide)|simp):zp P ts dr K (⟨d,.call f,args,none,af⟩::r) s acc:=
 zjB (rn l) hf ha hp (ziE h1 h2 h3) hn
end
section
variable {rs:List RV} {res:LV} {obj obj':List (Nat × LObj)} {s:St} {pre:Prop} {lvs:List LV}
theorem RetA.mk (h1:keepO s obj':=by first|exact kpT|fail) (h2:keepG s obj:=by first|exact kpT|fail) (h3:resL s rs=some (pre,lvs):=by first|rfl|(simp only [resL];rfl)) (hp:pre:=by first|trivial|omega|exact kpT|fail) (hl:lvs=[res]:=by first|rfl|(simp;done)) (h4:scP (zm obj') res:=by first|exact kpT|fail):RetA rs res obj obj' s:=
 ⟨h1,h2,pre,lvs,h3,hp,.inl ⟨hl,h4⟩⟩
theorem RetA.mkP {pre2:Prop} {vs:List PV} {ks:List Nat} {v:PV} (h1:keepO s obj':=by first|exact kpT|fail) (h2:keepG s obj:=by first|exact kpT|fail) (h3:resL s rs=some (pre,lvs):=by first|rfl|(simp only [resL];rfl)) (hp:pre:=by first|trivial|omega|exact kpT|fail) (h5:toPVs s.look lvs=some (pre2,vs,ks):=by first|rfl|(simp only [qS,qe,Nat.reduceEqDiff,reduceIte,Nat.reduceBEq]<;>rfl)) (hp2:pre2:=by first|trivial|omega|exact kpT|fail) (hw:Weak (tupOf vs) v:=by exact .refl _) (hk:∀ k ∈ ks,zm obj' k=none:=by intro k hk;simp at hk;subst hk;rfl):RetA rs (.p v) obj obj' s:=
 ⟨h1,h2,pre,lvs,h3,hp,.inr (.inl ⟨pre2,vs,ks,v,h5,hp2,hw,rfl,hk⟩)⟩
end
end Go.Proofs.YtbgckikhhcbmpaaGreat
