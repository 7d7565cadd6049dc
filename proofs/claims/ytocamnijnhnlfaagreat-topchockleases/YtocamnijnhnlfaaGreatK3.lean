/- Contracts of functions, for the claim. No conditions. -/
import Derived.KernelRfl
import Derived.Test.YtocamnijnhnlfaaGreatChecked
import Derived.Test.YtocamnijnhnlfaaGreatK2
set_option linter.all false
set_option maxHeartbeats 8000000
set_option maxRecDepth 100000
namespace Go.Proofs.YtocamnijnhnlfaaGreat
open Go.RowKit Tryz
def zqR (R:LV->LV->Prop) (s:St):List (Nat × LV)->Prop
 | []=>True
 | (t,v)::r=>(v=s.get t\/R (s.get t) v)/\zqR R s r
theorem zel {R:LV->LV->Prop} {s:St}:∀ {l:List (Nat × LV)},zqR R s l->∀ t,zaD l t=s.get t\/R (s.get t) (zaD l t)\/zaD l t=.any
 | [],_,t=>.inr (.inr rfl)
 | (j,v)::r,h,t=>by
  simp only [zaD]
  split
  ·rename_i e;subst e;exact h.1.imp id .inl
  ·exact zel h.2 t
def zqQ (R:LObj->LObj->Prop) (s:St):List (Nat × LObj)->Prop
 | []=>True
 | (j,o)::r=>(s.look j=some o\/∃ o0,s.look j=some o0/\R o0 o)/\zqQ R s r
theorem zdt {R:LObj->LObj->Prop} {s:St}:∀ {l:List (Nat × LObj)},zqQ R s l->∀ j o,zp l j=some o->s.look j=some o\/∃ o0,s.look j=some o0/\R o0 o
 | [],_,j,o,h=>by simp [zp] at h
 | (i,u)::r,h,j,o,ho=>by
  simp only [zp] at ho
  split at ho
  ·rename_i e;subst e;injection ho with ho;subst ho;exact h.1
  ·exact zdt h.2 j o ho
section
variable {X:Fx} {C:Ctx} {a:Act} {w:World} {s:St} {k e sz:Nat} {xs:List PV} {a0:Option Addr} {c0:Nat} {env:List (Nat × LV)} {obj:List (Nat × LObj)}
def Mlt (r q p p':PV):Prop:=mltC r q p p'\/∃ cs ds,p=.agg cs/\p'=.agg ds/\zeZ r q cs ds
def zhG (r q:PV):List PV->List PV->Prop
 | [],[]=>True
 | p::ps,p'::ps'=>Mlt r q p p'/\zhG r q ps ps'
 | _,_=>False
theorem zhH {r q:PV}:∀ (ps:List PV),zeZ r q ps ps
 | []=>trivial
 | _::ps=>⟨.inl rfl,zhH ps⟩
theorem zj3 {r q:PV}:∀ {ps ps' qs qs':List PV},zeZ r q ps ps'->zeZ r q qs qs'->zeZ r q (ps++qs) (ps'++qs')
 | [],[],_,_,_,h=>h
 | _::_,_::_,_,_,h,k=>⟨h.1,zj3 h.2 k⟩
 | [],_::_,_,_,h,_=>h.elim
 | _::_,[],_,_,h,_=>h.elim
def zj2 {r q p p':PV} (hr:r.cells=[r]) (hq:q.cells=[q]) (h:Mlt r q p p'):zeZ r q p.cells p'.cells:=by
 rcases h with (rfl|⟨rfl,rfl⟩)|⟨cs,ds,rfl,rfl,h⟩
 ·exact zhH _
 ·rw [hr,hq];exact ⟨.inr ⟨rfl,rfl⟩,trivial⟩
 ·exact h
theorem zd3 {r q:PV} (hr:r.cells=[r]) (hq:q.cells=[q]):∀ {ps ps':List PV},zhG r q ps ps'->ps'.length=ps.length/\zeZ r q (ps.flatMap PV.cells) (ps'.flatMap PV.cells)
 | [],[],_=>⟨rfl,trivial⟩
 | p::ps,p'::ps',h=>by
  obtain ⟨h1,h2⟩:=zd3 hr hq h.2;exact ⟨by simp [h1],by simp only [xaH];exact zj3 (zj2 hr hq h.1) h2⟩
 | [],_::_,h=>h.elim
 | _::_,[],h=>h.elim
theorem zhF {r q:PV}:∀ {ps ps':List PV},zhG r q ps ps'->∀ p' ∈ ps',∃ p ∈ ps,Mlt r q p p'
 | [],[],_,p',h=>by cases h
 | p::ps,p1::ps',h,p',hm=>by
  rcases xaB.1 hm with rfl|hm
  ·exact ⟨p,by simp,h.1⟩
  ·obtain ⟨x,h1,h2⟩:=zhF h.2 p' hm;exact ⟨x,by simp [h1],h2⟩
 | [],_::_,h,_,_=>h.elim
 | _::_,[],h,_,_=>h.elim
theorem zgj {r q:PV}:∀ (ps:List PV),zhG r q ps ps
 | []=>trivial
 | _::ps=>⟨.inl (.inl rfl),zgj ps⟩
def zrF {B:Nat->Prop} {v:Value} {n:Nat} {q p p':PV} (hq:Rep w B (.slice a0 n c0) q) (h:Mlt (.rs a0 n c0) q p p') (hv:Rep w B v p):Rep w B v p':=by
 rcases h with h|⟨cs,ds,rfl,rfl,h⟩
 ·exact zfM hq h hv
 ·cases hv with
  | agg h1 h2=>
   refine .agg (by rw [zde h];exact h1) λj u p' hu hp'=>?_
   obtain ⟨p,g1,g2⟩:=zfL h j p' hp';exact zfM hq g2 (h2 j u p hu g1)
def zCM (r q:PV) (x x':LV):Prop:=∃ p p',x=.p p/\x'=.p p'/\Mlt r q p p'
def zCN (r q:PV) (o o':LObj):Prop:=∃ e sz ys ys' fz,o=.row e sz ys fz/\o'=.row e sz ys' fz/\zhG r q ys ys'
def zx4 (k e sz:Nat) (xs:List PV) (a0:Option Addr) (c0:Nat) (s:St) (env:List (Nat × LV)) (obj:List (Nat × LObj)):Prop:=
 zqR (zCM (.rs a0 xs.length c0) (.sl sz xs)) s env/\zqQ (zCN (.rs a0 xs.length c0) (.sl sz xs)) s obj/\scEnv (zp ((k,.row e sz xs true)::obj)) env/\scObj (zp ((k,.row e sz xs true)::obj)) obj
def RelC.melt (hM:X.MOk) (h:RelC X C s.get s.look s.tr s.stop a w) (hk:s.look k=some (.hrow e sz xs a0 c0)) (hp:zx4 k e sz xs a0 c0 s env obj) :
  ∃ C',RelC X C' (zaD env) (zp ((k,.row e sz xs true)::obj)) s.tr s.stop a w:=by
 obtain ⟨he,ho,hse,hso⟩:=hp;obtain ⟨hob,hc⟩:=h.obj k _ hk
 let l1:=upd s.look k (some (LObj.row e sz xs false))
 have hl1:∀ j o,l1 j=some o->(j=k/\o=.row e sz xs false)\/(j≠k/\s.look j=some o):=λj o hj=>by
  by_cases ej:j=k
  ·subst ej;simp only [l1,zi] at hj;injection hj with hj;exact .inl ⟨rfl,hj.symm⟩
  ·simp only [l1,zw _ _ ej] at hj;exact .inr ⟨ej,hj⟩
 have hrows1:∀ j e1 sz1 xs1 fz1 e' sz' xs' fz',s.look j=some (.row e1 sz1 xs1 fz1)->l1 j=some (.row e' sz' xs' fz')->e'=e1/\sz'=sz1/\xs'.length=xs1.length:=λj e1 sz1 xs1 fz1 e' sz' xs' fz' h1 h2=>by
  rcases hl1 j _ h2 with ⟨rfl,h3⟩|⟨_,h3⟩
  ·rw [hk] at h1;cases h1
  ·rw [h1] at h3;injection h3 with h3;injection h3 with f1 f2 f3 f4;subst f1;subst f2;subst f3;exact ⟨rfl,rfl,rfl⟩
 have keep:∀ q,LV.Sc s.look q->LV.Sc l1 q:=λq hq=>by
  induction hq with
  | p v=>exact .p v
  | g _ ih=>exact .g ih
  | @lp j _ _ _ hj=>exact .lp (by rw [show l1 j=s.look j from zw _ _ (λe=>by subst e;rw [hk] at hj;cases hj)];exact hj)
  | @row j _ _ _ _ _ hj hn=>exact .row (by rw [show l1 j=s.look j from zw _ _ (λe=>by subst e;rw [hk] at hj;cases hj)];exact hj) hn
  | @ep j _ _ _ _ _ _ _ hj hn=>exact .ep (by rw [show l1 j=s.look j from zw _ _ (λe=>by subst e;rw [hk] at hj;cases hj)];exact hj) hn
  | @it j _ _ hj=>exact .it (by rw [show l1 j=s.look j from zw _ _ (λe=>by subst e;rw [hk] at hj;cases hj)];exact hj)
  | @im j _ _ hj=>exact .im (by rw [show l1 j=s.look j from zw _ _ (λe=>by subst e;rw [hk] at hj;cases hj)];exact hj)
  | @lm j _ _ hj=>exact .lm (by rw [show l1 j=s.look j from zw _ _ (λe=>by subst e;rw [hk] at hj;cases hj)];exact hj)
  | fn _ _ ih1 ih2=>exact .fn ih1 ih2
  | agg _ ih=>exact .agg ih
  | tup _ ih=>exact .tup ih
  | yield=>exact .yield
  | any=>exact .any
 have h1:RelC X C s.get l1 s.tr s.stop a w:=h.desc (λj o hj=>by
   rcases hl1 j o hj with ⟨rfl,rfl⟩|⟨_,h1⟩
   ·exact ⟨_,hk,rfl,rfl⟩
   ·exact ⟨o,h1,rfl,rfl⟩) (λj o hj=>by
   rcases hl1 j o hj with ⟨rfl,rfl⟩|⟨ej,h1⟩
   ·exact ⟨hob,trivial⟩
   ·refine ⟨(h.obj j o h1).look (h.objs j o h1) hrows1,?_⟩;have:=h.objs j o h1;cases o<;>simp only [LObj.Sc] at this ⊢
    exact λi q hq=>keep q (this i q hq)) (λt=>⟨(h.env t).desc hrows1 (h.envs t),keep _ (h.envs t)⟩)
 have h2:=h1.freeze (d:=k) (o:=.row e sz xs false) (zi _ _ _) rfl hM
 let C':Ctx:={ C with B:=λb=>C.B b\/blk C k (.row e sz xs false)=some b }
 let l2:=upd l1 k (some (LObj.row e sz xs true))
 have h2:RelC X C' s.get l2 s.tr s.stop a w:=h2;have hsl:Rep w C'.B (.slice a0 xs.length c0) (.sl sz xs):=by
  refine zid h2 (λ_ h=>h) 1 (v:=.slice a0 xs.length c0) (q:=.row k xs.length) (pre:=xs.length=xs.length) (ks:=[k]) (zc7 hc) ?_ rfl (λb ⟨j,hj,o,h3,h4⟩=>?_)
  ·simp only [toPV,l2,zi]
  ·simp only [xa8] at hj;subst hj;simp only [l2,zi] at h3;injection h3 with h3;subst h3;exact .inr h4
 have was:∀ j o,zp ((k,.row e sz xs true)::obj) j=some o->(j=k/\o=.row e sz xs true)\/(j≠k/\∃ o0,l2 j=some o0/\(o0=o\/zCN (.rs a0 xs.length c0) (.sl sz xs) o0 o)):=λj o hj=>by
  simp only [zp] at hj
  split at hj
  ·rename_i ej;injection hj with hj;exact .inl ⟨ej,hj.symm⟩
  ·rename_i ej;have e2:l2 j=s.look j:=(zw _ _ ej).trans (zw _ _ ej)
   rcases zdt ho j o hj with h3|⟨o0,h3,h4⟩
   ·exact .inr ⟨ej,o,by rw [e2];exact h3,.inl rfl⟩
   ·exact .inr ⟨ej,o0,by rw [e2];exact h3,.inr h4⟩
 have hrc:PV.cells (.rs a0 xs.length c0)=[.rs a0 xs.length c0]:=rfl;have hqc:PV.cells (.sl sz xs)=[.sl sz xs]:=rfl;have hrows:∀ j e1 sz1 xs1 fz1 e' sz' xs' fz',l2 j=some (.row e1 sz1 xs1 fz1)->zp ((k,.row e sz xs true)::obj) j=some (.row e' sz' xs' fz')->e'=e1/\sz'=sz1/\xs'.length=xs1.length:=λj e1 sz1 xs1 fz1 e' sz' xs' fz' f1 f2=>by
  rcases was j _ f2 with ⟨rfl,h3⟩|⟨_,o0,h3,rfl|⟨e3,sz3,ys,ys',fz3,rfl,h5,h6⟩⟩
  ·simp only [l2,zi] at f1;injection f1 with f1;injection f1 with g1 g2 g3 g4;injection h3 with i1 i2 i3 i4;subst g1;subst g2;subst g3;subst i1;subst i2;subst i3;exact ⟨rfl,rfl,rfl⟩
  ·rw [f1] at h3;injection h3 with h3;injection h3 with g1 g2 g3 g4;subst g1;subst g2;subst g3;exact ⟨rfl,rfl,rfl⟩
  ·rw [f1] at h3;injection h3 with h3;injection h3 with g1 g2 g3 g4;injection h5 with i1 i2 i3 i4;subst g1;subst g2;subst g3;subst i1;subst i2;subst i3;exact ⟨rfl,rfl,(zd3 hrc hqc h6).1⟩
 refine ⟨C',h2.desc (λj o hj=>?_) (λj o hj=>?_) (λt=>⟨?_,zce hse t⟩)⟩
 ·rcases was j o hj with ⟨rfl,rfl⟩|⟨_,o0,h3,rfl|⟨e3,sz3,ys,ys',fz3,rfl,rfl,h6⟩⟩
  ·exact ⟨_,zi _ _ _,rfl,rfl⟩
  ·exact ⟨_,h3,rfl,rfl⟩
  ·exact ⟨_,h3,rfl,rfl⟩
 ·have sc:j≠k->LObj.Sc (zp ((k,.row e sz xs true)::obj)) o:=λej=>by
   simp only [zp,if_neg ej] at hj;exact za4 hso j o hj
  rcases was j o hj with ⟨rfl,rfl⟩|⟨ej,o0,h3,rfl|⟨e3,sz3,ys,ys',fz3,rfl,rfl,h6⟩⟩
  ·exact ⟨h2.obj j (.row e sz xs true) (zi _ _ _),trivial⟩
  ·exact ⟨(h2.obj j _ h3).look (h2.objs j _ h3) hrows,sc ej⟩
  ·obtain ⟨us,g1,g2,g3,g4⟩:=h2.obj j _ h3;obtain ⟨m1,m2⟩:=zd3 hrc hqc h6;refine ⟨⟨us,by rw [m1];exact g1,⟨by rw [zde m2];exact g2.1,λi u p hu hp=>?_⟩,λx hx=>?_,g4⟩,trivial⟩
   ·obtain ⟨p0,i1,i2⟩:=zfL m2 i p hp;exact zfM hsl i2 (g2.2 i u p0 hu i1)
   ·obtain ⟨x0,i1,i2⟩:=zhF h6 x hx;rw [zde (zj2 hrc hqc i2)];exact g3 x0 i1
 ·rcases zel he t with h3|⟨p,p',h3,h4,h5⟩|h3
  ·rw [h3];exact (h2.env t).desc hrows (h2.envs t)
  ·rw [h4];have:=h2.env t;rw [h3] at this;exact .p (zrF hsl h5 (zg this))
  ·rw [h3];exact .any _
end
section
variable {G:Cfg} {cd:AC} {s:St} {Q:zZ} {k e sz:Nat} {xs:List PV} {a0:Option Addr} {c0:Nat}
end
def zlB (k n:Nat) (a0:Option Addr) (c0:Nat):List LV->List LV->Prop
 | [],[]=>True
 | q::r,q'::r'=>((∃ v,q=.p v/\q'=.p v)\/(q=.row k n/\q'=.p (.rs a0 n c0)))/\zlB k n a0 c0 r r'
 | _,_=>False
theorem zhw {k n:Nat} {a0:Option Addr} {c0:Nat}:∀ {l l':List LV},zlB k n a0 c0 l l'->l'.length=l.length/\∀ (j:Nat) (q:LV),l[j]?=some q->∃ q',l'[j]?=some q'/\((∃ v,q=.p v/\q'=.p v)\/(q=.row k n/\q'=.p (.rs a0 n c0)))
 | [],[],_=>⟨rfl,λj q h=>by simp at h⟩
 | q::r,q'::r',h=>by
  obtain ⟨h1,h2⟩:=zhw h.2;refine ⟨by simp [h1],λj p hp=>?_⟩
  cases j with
  | zero=>simp at hp;subst hp;exact ⟨q',rfl,h.1⟩
  | succ j=>obtain ⟨x,g1,g2⟩:=h2 j p (by simpa using hp);exact ⟨x,by simpa using g1,g2⟩
 | [],_::_,h=>h.elim
 | _::_,[],h=>h.elim
def zx {k j:Nat} {o x:LObj} (h:zp [(k,o)] j=some x):j=k/\x=o:=by
 simp only [zp] at h
 split at h
 ·rename_i e;injection h with h;exact ⟨e,h.symm⟩
 ·cases h
def zT (k:Nat) (o:LObj):zp [(k,o)] k=some o:=by simp [zp]
def zwY {P:Program} {f:FuncId} {args args':List LV} {k e sz:Nat} {xs xs':List PV} {r:PV} (a0:Option Addr) (c0:Nat) (hA:Acts P f args [(k,.row e sz xs false)] (.p r) [(k,.row e sz xs' false)]) (hlen:xs'.length=xs.length)
  (hp:zlB k xs.length a0 c0 args args'):Acts P f args' [(k,.hrow e sz xs a0 c0)] (.p r) [(k,.hrow e sz xs' a0 c0)]:=by
 obtain ⟨h1,h2,h3,h4⟩:=hA;obtain ⟨hl,hat⟩:=zhw hp;refine ⟨h1,λj o hj=>?_,λj o hj=>?_,λw C vs fr hlv hvs=>?_⟩
 ·obtain ⟨rfl,rfl⟩:=zx hj;exact ⟨trivial,rfl⟩
 ·obtain ⟨rfl,rfl⟩:=zx hj;exact ⟨_,zT _ _,rfl,rfl⟩
 ·obtain ⟨hob,hc⟩:=fr.ob k _ (zT _ _);have fr':zEi w C [(k,.row e sz xs false)]:={
   blt:=fr.blt
   ob:=λj o hj=>by obtain ⟨rfl,rfl⟩:=zx hj;exact hob
   objs:=λj o hj=>by obtain ⟨rfl,rfl⟩:=zx hj;trivial
   fz:=λj o hj=>by obtain ⟨rfl,rfl⟩:=zx hj;rfl
   sep:=λj o b hj hb=>by obtain ⟨rfl,rfl⟩:=zx hj;exact fr.sep j _ b (zT _ _) hb
   dis:=λj j' o o' b hne hj hj' _ _=>by obtain ⟨rfl,_⟩:=zx hj;obtain ⟨rfl,_⟩:=zx hj';exact absurd rfl hne }
  refine Calls.mono (h4 w C vs fr' (by rw [hlv,hl]) λj v q hv hq=>?_) ?_
  ·obtain ⟨q',g1,⟨x,rfl,rfl⟩|⟨rfl,rfl⟩⟩:=hat j q hq
   ·exact .p (zg (hvs j v _ hv g1))
   ·have:=zg (hvs j v _ hv g1);cases this;exact zc7 hc
  ·rintro ex w' ⟨u,C',rfl,he⟩;refine ⟨u,C',rfl,?_⟩;have ht:=he.tied k _ _ (zT _ _) (zT _ _) (λ_ _ _ _ _ e=>by cases e) (λ_ _ _ _ _ _ _ _ e1 e2=>by cases e1;cases e2;exact hlen)
   have hbk:∀ C2:Ctx,zxX C2 [(k,.hrow e sz xs a0 c0)]=zxX C2 [(k,.row e sz xs false)]:=λC2=>by
    funext b
    refine propext ⟨λ⟨j,o,g1,g2⟩=>?_,λ⟨j,o,g1,g2⟩=>?_⟩
    ·obtain ⟨rfl,rfl⟩:=zx g1;exact ⟨j,_,zT _ _,g2⟩
    ·obtain ⟨rfl,rfl⟩:=zx g1;exact ⟨j,_,zT _ _,g2⟩
   exact {
    kx:=by rw [hbk];exact he.kx
    fr:={
     blt:=he.fr.blt
     ob:=λj o hj=>by
      obtain ⟨rfl,rfl⟩:=zx hj;exact ⟨he.fr.ob j _ (zT _ _),by rw [hlen];exact (show C'.cur j=C.cur j from ht).trans hc⟩
     objs:=λj o hj=>by obtain ⟨rfl,rfl⟩:=zx hj;trivial
     fz:=λj o hj=>by obtain ⟨rfl,rfl⟩:=zx hj;rfl
     sep:=λj o b hj hb=>by obtain ⟨rfl,rfl⟩:=zx hj;exact he.fr.sep j _ b (zT _ _) hb
     dis:=λj j' o o' b hne hj hj' _ _=>by obtain ⟨rfl,_⟩:=zx hj;obtain ⟨rfl,_⟩:=zx hj';exact absurd rfl hne }
    b1:=he.b1
    b2:=by rw [hbk];exact he.b2
    y:=he.y
    fol:=λj o hj=>by obtain ⟨rfl,rfl⟩:=zx hj;exact ⟨_,zT _ _,rfl,rfl⟩
    tied:=λj o o' _ hj' hnh _=>by obtain ⟨rfl,rfl⟩:=zx hj';exact absurd rfl (hnh _ _ _ _ _)
    bk:=λj o b hj hb=>by
     obtain ⟨rfl,rfl⟩:=zx hj;rw [hbk];exact he.bk j _ b (zT _ _) hb
    rp:=.p (zg he.rp)
    scr:=.p _ }
def nilW:List LV->List LV->Prop
 | [],[]=>True
 | q::r,q'::r'=>(q'=q\/∃ sz,q=.p .nilsl/\q'=.p (.sl sz []))/\nilW r r'
 | _,_=>False
theorem zrC:∀ {l l':List LV},nilW l l'->l'.length=l.length/\∀ (j:Nat) (q':LV),l'[j]?=some q'->∃ q,l[j]?=some q/\(q'=q\/∃ sz,q=.p .nilsl/\q'=.p (.sl sz []))
 | [],[],_=>⟨rfl,λj q h=>by simp at h⟩
 | q::r,q'::r',h=>by
  obtain ⟨h1,h2⟩:=zrC h.2;refine ⟨by simp [h1],λj p hp=>?_⟩
  cases j with
  | zero=>simp at hp;subst hp;exact ⟨q,rfl,h.1⟩
  | succ j=>obtain ⟨x,g1,g2⟩:=h2 j p (by simpa using hp);exact ⟨x,by simpa using g1,g2⟩
 | [],_::_,h=>h.elim
 | _::_,[],h=>h.elim
def zok {G:Cfg} {cd:AC} {s:St} {Q:zZ} (k:Nat) (cs cs':List LV) {fz:Bool} (hk:s.look k=some (.box cs fz)) (hw:nilW cs cs') (h:Run G cd (s.wr k (.box cs' fz)) Q):Run G cd s Q:=by
 intro hG code hc C a w hr;refine h hG code hc C a w ?_;obtain ⟨hl,hat⟩:=zrC hw;have hlk:∀ j,(s.wr k (.box cs' fz)).look j=if j=k then some (.box cs' fz) else s.look j:=λj=>by
  show zp (oset s.obj k _) j=_;rw [zbV];rfl
 have hrows:∀ j e sz xs fz1 e' sz' xs' fz',s.look j=some (.row e sz xs fz1)->(s.wr k (.box cs' fz)).look j=some (.row e' sz' xs' fz')->e'=e/\sz'=sz/\xs'.length=xs.length:=λj e sz xs fz1 e' sz' xs' fz' h1 h2=>by
  rw [hlk] at h2
  split at h2
  ·cases h2
  ·rw [h1] at h2;injection h2 with h2;injection h2 with f1 f2 f3 f4;subst f1;subst f2;subst f3;exact ⟨rfl,rfl,rfl⟩
 have hfol:∀ j o,s.look j=some o->∃ o',(s.wr k (.box cs' fz)).look j=some o'/\o.Follows o':=λj o hj=>by
  rw [hlk]
  by_cases e:j=k
  ·subst e;rw [hk] at hj;injection hj with hj;subst hj;exact ⟨_,if_pos rfl,trivial⟩
  ·exact ⟨o,by rw [if_neg e];exact hj,o.follows_refl⟩
 refine hr.desc (λj o hj=>?_) (λj o hj=>?_) (λt=>⟨(hr.env t).desc hrows (hr.envs t),(hr.envs t).follows hfol⟩)
 ·rw [hlk] at hj
  split at hj
  ·rename_i e;subst e;injection hj with hj;subst hj;exact ⟨_,hk,rfl,rfl⟩
  ·exact ⟨o,hj,rfl,rfl⟩
 ·rw [hlk] at hj
  split at hj
  ·rename_i e;subst e;injection hj with hj;subst hj;obtain ⟨arr,ty,h1,h2,h3⟩:=hr.obj j _ hk;have hsc:=hr.objs j _ hk;refine ⟨⟨arr,ty,h1,by omega,λi v q' hv hq=>?_⟩,λi q' hq=>?_⟩
   ·obtain ⟨q,g1,rfl|⟨sz,rfl,rfl⟩⟩:=hat i q' hq
    ·exact (h3 i v _ hv g1).desc hrows (hsc i _ g1)
    ·have:=zg (h3 i v _ hv g1);cases this;exact .p .sl0
   ·obtain ⟨q,g1,rfl|⟨sz,rfl,rfl⟩⟩:=hat i q' hq
    ·exact (hsc i _ g1).follows hfol
    ·exact .p _
  ·refine ⟨(hr.obj j o hj).look (hr.objs j o hj) hrows,?_⟩;have:=hr.objs j o hj;cases o<;>simp only [LObj.Sc] at this ⊢
   exact λi q hq=>(this i q hq).follows hfol
def lit1 (k n:Nat) (r:PV) (q:LV) (p:PV):Prop:=q=.p p\/(q=.row k n/\p=r)
def zzN (k n:Nat) (r:PV):List LV->List PV->Prop
 | [],[]=>True
 | q::qs,p::ps=>lit1 k n r q p/\zzN k n r qs ps
 | _,_=>False
def lit2 (k n:Nat) (r:PV) (q:LV) (p:PV):Prop:=lit1 k n r q p\/∃ cs ps,q=.agg cs/\p=.agg ps/\zzN k n r cs ps
section
variable {X:Fx} {C:Ctx} {g:Nat->LV} {look:Nat->Option LObj} {tr:List (List PV)} {stop:Bool} {a:Act} {w:World} {P:Program} {s:St} {k e sz n c0:Nat} {xs:List PV} {a0:Option Addr}
def znq (hc:∀ fz,look k=some (.row e sz xs fz)->C.cur k=.slice a0 n c0) {fz:Bool} (hk:look k=some (.row e sz xs fz)) (hn:n=xs.length) {v:Value} {q:LV} {p:PV} (h:lit1 k n (.rs a0 n c0) q p) (hq:RepL w C look v q):Rep w C.B v p:=by
 rcases h with rfl|⟨rfl,rfl⟩
 ·exact zg hq
 ·rw [zc9 hq _ _ _ _ hk hn.symm,hc _ hk];exact .rs _ _ _
theorem zj8 {r:PV}:∀ {cs:List LV} {ps:List PV},zzN k n r cs ps->ps.length=cs.length/\∀ (j:Nat) (q:LV) (p:PV),cs[j]?=some q->ps[j]?=some p->lit1 k n r q p
 | [],[],_=>⟨rfl,λj q p h=>by simp at h⟩
 | q::qs,p::ps,h=>by
  obtain ⟨h1,h2⟩:=zj8 h.2;refine ⟨by simp [h1],λj x y hx hy=>?_⟩
  cases j with
  | zero=>simp at hx hy;subst hx;subst hy;exact h.1
  | succ j=>exact h2 j x y (by simpa using hx) (by simpa using hy)
 | [],_::_,h=>h.elim
 | _::_,[],h=>h.elim
end
def sufOk (n:Nat):List RO->Bool
 | []=>true
 | o::r=>((List.range n).all λi=>o.after.contains i) && (o.after.all λe=>decide (e < n)) && sufT n r
where sufT (n:Nat):List RO->Bool
 | []=>true
 | o::r=>o.after.contains n && (o.after.all λe=>decide (e < n+1)) && sufT (n+1) r
theorem zp4:∀ {l:List RO} {n:Nat},sufOk.sufT n l=true->∀ j o,l[j]?=some o->n+j ∈ o.after/\∀ e ∈ o.after,e < n+j+1
 | [],_,_,j,o,h=>by simp at h
 | x::r,n,h,j,o,hj=>by
  simp only [sufOk.sufT,xam,xaD,decide_eq_true_eq] at h;cases j with
  | zero=>simp at hj;subst hj;exact ⟨by simpa using h.1.1,λe he=>by have:=h.1.2 e he;omega⟩
  | succ j=>
   have:=zp4 h.2 j o (by simpa using hj)
   rw [show n+(j+1)=n+1+j by omega];exact this
section
variable {P:Program} {ts:List (List PV)} {ro:Option Nat} {X:Fx} {ops:Array Oper}
def ztS (hM:X.MOk) {L:List RO} (hcomp:zbi P X.N ops ops.toList=some L) {QX:Exit->Act->World->Prop} {K:St->List Ft->Prop} (hK:∀ s acc,K s acc->∀ C a w,RelC X C s.get s.look s.tr s.stop a w->QX .normal a w) :
  ∀ (l:List RO) (b:Nat) (s:St) (acc:List Ft),L.drop b=l->b<=L.length ->
  (∀ j o,b<=j->L[j]?=some o->(∀ e ∈ o.after,e < j)/\(b < j->j - 1 ∈ o.after))->ts=[]->zj P ts false K l s acc ->
  ∀ (fuel:Nat) (listed:Array Bool) (C:Ctx) (a:Act) (w:World),listed.size=ops.size->zi4 listed ops.size<=fuel->(∀ j,listed.getD j false=decide (j < b))->RelC X C s.get s.look s.tr s.stop a w->wpAnyIn (zaF ro) 0 P .any ops QX fuel listed a w:=by
 obtain ⟨hcl,hcg⟩:=zbq hcomp;have hn:L.length=ops.size:=by rw [<-hcl];simp
 intro l
 induction l with
 | nil=>
  intro b s acc hLb hbL hord hts hrun fuel listed C a w hs hle hlisted hr;have hLe:L.length<=b:=by have:=congrArg List.length hLb;simp at this;omega
  have hall:∀ i,i < ops.size->listed.getD i false=true:=λi hi=>by rw [hlisted];simp;omega
  have hno:Region.ready .any ops listed=[]:=xb7.2 λi hi=>by
   obtain ⟨oper,h1,h2,_⟩:=zbv.1 hi;have hlt:=(xaR.1 h1).1;have:=hall i hlt;rw [xap,xan (by omega)] at this h2
   simp only [xa1] at this h2;rw [this] at h2;cases h2
  have hq:=hK s acc hrun C a w hr;cases fuel with
  | zero=>exact ⟨hno,hq⟩
  | succ fuel=>exact ⟨λ_=>hq,λi hi=>by rw [hno] at hi;cases hi⟩
 | cons o r ih=>
  intro b s acc hLb hbL hord hts hrun fuel listed C a w hs hle hlisted hr;have hLo:L[b]?=some o:=by
   have:(L.drop b)[0]?=some o:=by rw [hLb];rfl
   rw [xaI] at this;simpa using this
  have hbl:b < L.length:=(xaa.1 hLo).1;have hoper:=xan (xs:=ops) (i:=b) (by omega)
  obtain ⟨o',g1,hco⟩:=hcg b ops[b] (by simpa using hoper)
  rw [hLo] at g1;injection g1 with g1;subst g1;have hready:∀ i,i ∈ Region.ready .any ops listed↔i=b:=λi=>by
   rw [zbv]
   constructor
   ·rintro ⟨oper,h1,h2,h3⟩;have hlt:=(xaR.1 h1).1;have hun:listed.getD i false=false:=by
     rw [xap,xan (by omega)] at h2 ⊢
     exact h2
    rw [hlisted] at hun;simp at hun;obtain ⟨oi,k1,k2⟩:=hcg i oper (by simpa using h1)
    have haf:=(zdJ (zak k2) (listed:=λe=>listed.getD e false)).1 h3
    by_cases e:i=b
    ·exact e
    ·have:=haf _ ((hord i oi hun k1).2 (by omega))
     simp only [hlisted] at this;simp at this
     omega
   ·rintro rfl;refine ⟨_,hoper,?_,(zdJ (zak hco) (listed:=λe=>listed.getD e false)).2 λe he=>?_⟩
    ·have:listed.getD i false=false:=by rw [hlisted];simp
     rw [xap,xan (by omega)] at this ⊢
     exact this
    ·show listed.getD e false=true;rw [hlisted];simp;exact (hord i _ (xah _) hLo).1 e he
  have hset:∀ j,(listed.setIfInBounds b true).getD j false=decide (j < b+1):=λj=>by
   rw [zi9 (by omega)]
   by_cases e:j=b
   ·subst e;simp
   ·rw [if_neg e,hlisted];simp only [decide_eq_decide];omega
  have hleft:zi4 (listed.setIfInBounds b true) ops.size+1=zi4 listed ops.size:=zi3 (by omega) hs (by rw [hlisted];simp)
  have hnext:∀ s' acc',zj P ts false K r s' acc'->∀ C' a' w' (f:Nat),zi4 (listed.setIfInBounds b true) ops.size<=f->RelC X C' s'.get s'.look s'.tr s'.stop a' w'->wpAnyIn (zaF ro) 0 P .any ops QX f (listed.setIfInBounds b true) a' w':=λs' acc' hr' C' a' w' f hf hrel=>
   ih (b+1) s' acc' (by rw [<-xbB,hLb];rfl) (by omega) (λj oj hj hLj=>⟨(hord j oj (by omega) hLj).1,λ_=>(hord j oj (by omega) hLj).2 (by omega)⟩) hts hr' f _ C' a' w' (by simpa using hs) hf hset hrel
  cases fuel with
  | zero=>omega
  | succ fuel=>
   refine ⟨λhno=>?_,λi hi=>?_⟩
   ·have:=(hready b).2 rfl;rw [hno] at this;cases this
   ·have:=(hready i).1 hi;subst this;unfold wpOpIn;rw [hoper];have hle':zi4 (listed.setIfInBounds i true) ops.size<=fuel:=by omega
    rcases hrun with ⟨v,wr,h1,h2⟩|⟨t,ks,h1,h2⟩|⟨_,ng,R,h1,h2⟩|⟨_,S,h1,h2⟩
    ·exact zcF h1 hco rfl hM hr λC' a' w' h'=>hnext _ _ h2 C' a' w' fuel hle' (by rw [(zX _ _ _).1,(zaQ _ _).1,(zX _ _ _).2,(zaQ _ _).2];exact h')
    ·obtain ⟨_,_,_,_,_,_,_,_,_,_,_,post,hts'⟩:=h1;rw [hts] at hts';simp at hts'
    ·exact zd5 h1 hco rfl hr λb hb C' a' w' h'=>hnext _ _ (h2 b hb) C' a' w' fuel hle' (by rw [(zX _ _ _).1,(zX _ _ _).2];exact h')
    ·exact h1 X C a w ops _ ro _ _ hco hM hr λs' C' a' w' g1 g2=>hnext _ _ (h2 s' g1) C' a' w' fuel hle' g2
def zqz {G:Cfg} {s:St} {Q:zZ} {l:List RO} (hm:G.P.follows .mixedOrders=true) (hts:G.ts=[]) (n:Nat) (hnl:n<=l.length) (hsuf:sufOk n (l.drop n)=true)
  (h:zj G.P G.ts true (λs1 acc=>zcR acc.reverse=true/\zj G.P G.ts false (λs2 _=>Q .normal s2) (l.drop n) s1 []) (l.take n) s []):Run G (.ops true l) s Q:=by
 intro hG code hc C a w hr;cases code<;>simp only [zP,xac] at hc
 case region id ops draw=>
  obtain ⟨l',h1,hc⟩:=hc;injection hc with e1 e2;subst e1;subst e2;have hb:Below w.heap.size w { w with drawn:=w.drawn+1 }:=⟨rfl,rfl,rfl,xah _,λ_ _=>rfl⟩
  have hr1:=hr.grow hb C.B (λ_ h=>h) (λb hb=>.inl hb)
  refine wpIn_region_any hm ?_;obtain ⟨hcl,hcg⟩:=zbq h1;have hn:l'.length=ops.size:=by rw [<-hcl];simp
  rcases zc5 h with ⟨rs,s1,hch,hok,hQ⟩|⟨l1,o,l2,rs,s1,t,ks,he,hch,hyo,hrest⟩
  ·have hseg:∀ (j:Nat) (x:Rec),rs[j]?=some x->(((rs.map Rec.ft).reverse++[]).reverse)[0+j]?=some x.ft:=λj x hx=>by simp [hx]
   have hlen:(l'.take n).length=n:=by rw [xaj];omega
   have hord:∀ j o,n<=j->l'[j]?=some o->(∀ e ∈ o.after,e < j)/\(n < j->j - 1 ∈ o.after)/\(j=n->∀ i,i < n->i ∈ o.after):=λj o hj hLj=>by
    have hd:(l'.drop n)[j - n]?=some o:=by rw [xaI,show n+(j - n)=j by omega];exact hLj
    cases hdn:l'.drop n with
    | nil=>rw [hdn] at hd;simp at hd
    | cons x r=>
     rw [hdn] at hsuf hd;simp only [sufOk,xam,xaD,decide_eq_true_eq,xaO] at hsuf
     by_cases e:j=n
     ·subst e;simp at hd;subst hd;exact ⟨hsuf.1.2,λh=>by omega,λ_ i hi=>by simpa using hsuf.1.1 i hi⟩
     ·have hj2:r[j - n - 1]?=some o:=by
       rw [show j - n=(j - n - 1)+1 by omega,xb9] at hd;exact hd
      obtain ⟨k1,k2⟩:=zp4 hsuf.2 _ _ hj2;exact ⟨λe he=>by have:=k2 e he;omega,λ_=>by rw [show j - 1=n+(j - n - 1) by omega];exact k1,λe'=>absurd e' e⟩
   have hall:∀ (S:Nat->Bool),(∀ j o,l'[j]?=some o->S j=true->∀ e ∈ o.after,S e=true)->∀ (d i:Nat) (o:RO),i=n+d->l'[i]?=some o->(∀ e ∈ o.after,S e=true)->∀ j,j < n->S j=true:=λS hS d=>by
    induction d with
    | zero=>intro i o hi hLi haf j hj;exact haf j ((hord i o (by omega) hLi).2.2 (by omega) j hj)
    | succ d ihd=>
     intro i o hi hLi haf j hj;have hp:=haf _ ((hord i o (by omega) hLi).2.1 (by omega))
     have hlt:i - 1 < l'.length:=by have:=(xaa.1 hLi).1;omega
     exact ihd (i - 1) _ (by omega) (xab hlt) (hS (i - 1) _ (xab hlt) hp) j hj
   refine zjk (b:=0) (L:=l') (l:=l'.take n) hG.mok hch (ze6 hok hseg) h1 (λj o hj=>?_) (by omega) (λS hS _ i o hi hLi haf j hj=>hall S hS (i - n) i o (by omega) hLi haf j (by omega))
    (λfuel listed C a w g1 g2 g3 g4=>?_) ops.size _ a _ (by simp) ?_ (λj hj=>by omega) (λj hj=>?_) (λj o hj hl=>?_) ⟨C,s,hr1,rfl,rfl,λk=>(zcD λj hj=>?_).symm,λk=>(zcD λj hj=>?_).symm⟩
   ·rw [xaF] at hj
    split at hj
    ·rw [xbN];exact hj
    ·cases hj
   ·exact ztS hG.mok h1 (K:=λs2 _=>Q .normal s2) (λs2 acc hq C a w hr=>⟨s2,C,hr,hq⟩) (l'.drop n) n s1 [] rfl hnl (λj o hj hLj=>⟨(hord j o hj hLj).1,(hord j o hj hLj).2.1⟩) hts hQ fuel listed C a w g1 g2 (λj=>by rw [g3,hlen,xbN]) g4
   ·unfold zi4;exact xaV (List.countP_le_length) (by simp)
   all_goals
    have hfalse:∀ j,(Array.replicate ops.size false).getD j false=false:=λj=>by
     rw [xap]
     by_cases e:j < ops.size
     ·rw [xan (by simpa using e)];simp
     ·rw [Array.getElem?_eq_none (by simpa using e)];simp
   ·exact hfalse j
   ·rw [hfalse] at hl;cases hl
   ·exact hfalse j
   ·exact hfalse j
  ·obtain ⟨_,_,_,_,_,_,_,_,_,_,_,post,hts'⟩:=hyo;rw [hts] at hts';simp at hts'
 all_goals first|(cases hc;done)|(obtain ⟨_,_,hc⟩:=hc;cases hc;done)|(split at hc<;>cases hc;done)
end
def zqI {P:Program} {K:St->List Ft->Prop} {o:RO} {r:List RO} {s:St} {acc:List Ft} (h:zj P [] false K (o::r) s acc):zdm P s o λs'=>zj P [] false K r s' acc:=by
 rcases h with ⟨v,wr,h1,h2⟩|⟨t,ks,h1,h2⟩|⟨_,ng,R,h1,h2⟩|⟨_,S,h1,h2⟩
 ·exact λX C a w ops oper ro K' Q hc hM hr hK=>zn8 h1 X C a w ops oper ro K' Q hc hM hr λs' C' a' w' e hr'=>hK s' C' a' w' (by rw [e];exact h2) hr'
 ·obtain ⟨_,_,_,_,_,_,_,_,_,_,_,post,hts'⟩:=h1;simp at hts'
 ·exact λX C a w ops oper ro K' Q hc hM hr hK=>zd5 h1 hc rfl hr λb hb C' a' w' hr'=>hK _ C' a' w' (h2 b hb) (by rw [(zX _ _ _).1,(zX _ _ _).2];exact hr')
 ·exact λX C a w ops oper ro K' Q hc hM hr hK=>h1 X C a w ops oper ro K' Q hc hM hr λs' C' a' w' e hr'=>hK s' C' a' w' (h2 s' e) hr'
def zbc {P:Program} {K:St->List Ft->Prop} {o:RO} {r:List RO} {s:St} {acc:List Ft} {S:St->Prop} (hg:zec s S) (h:∀ s1,S s1->zj P [] false K (o::r) s1 acc):zj P [] false K (o::r) s acc:=
 zeg (S:=λs'=>zj P [] false K r s' acc) (zn9 hg λs1 h1=>zqI (h s1 h1)) λ_ h=>h
def zon {G:Cfg} {cd:AC} {s:St} {Q:zZ} {S:St->Prop} (hg:zec s S) (h:∀ s1,S s1->Run G cd s1 Q):Run G cd s Q:=λhG code hc C a w hr=>
 let ⟨s1,C1,h1,h2⟩:=hg G.X C a w hG.mok hr
 h s1 h1 hG code hc C1 a w h2
def zgE {s:St} (t:Nat) (v':PV) {pre:Prop} {v:PV} {ks:List Nat} (ht:toPV s.look 4 (s.get t)=some (pre,v,ks)) (hp:pre) (hw:Weak v v'):zec s λs1=>s1=(s.wrs (frzs s.look ks)).set (some t) (.p v'):=λX C a w hM hr=>by
 obtain ⟨C',h'⟩:=hr.pub hM t ht hp hw;exact ⟨_,C',rfl,by rw [(zX _ _ _).1,(zX _ _ _).2,(zaQ _ _).1,(zaQ _ _).2];exact h'⟩
def pin2R (k n:Nat) (r:PV) (q q':LV):Prop:=∃ p,lit2 k n r q p/\q'=.p p
def zzv (k n:Nat) (r:PV):List LV->List LV->Prop
 | [],[]=>True
 | q::qs,q'::qs'=>(q'=q\/(q=.row k n/\q'=.p r))/\zzv k n r qs qs'
 | _,_=>False
theorem zna {k n:Nat} {r:PV}:∀ {l l':List LV},zzv k n r l l'->l'.length=l.length/\∀ (j:Nat) (q':LV),l'[j]?=some q'->∃ q,l[j]?=some q/\(q'=q\/(q=.row k n/\q'=.p r))
 | [],[],_=>⟨rfl,λj q h=>by simp at h⟩
 | q::qs,q'::qs',h=>by
  obtain ⟨h1,h2⟩:=zna h.2;refine ⟨by simp [h1],λj p hp=>?_⟩
  cases j with
  | zero=>simp at hp;subst hp;exact ⟨q,rfl,h.1⟩
  | succ j=>obtain ⟨x,g1,g2⟩:=h2 j p (by simpa using hp);exact ⟨x,by simpa using g1,g2⟩
 | [],_::_,h=>h.elim
 | _::_,[],h=>h.elim
def pinO (k n:Nat) (r:PV) (o o':LObj):Prop:=∃ cs cs' fz,o=.box cs fz/\o'=.box cs' fz/\zzv k n r cs cs'
def zEg (k e sz:Nat) (xs:List PV) (a0:Option Addr) (c0:Nat) (s:St) (env:List (Nat × LV)) (obj:List (Nat × LObj)):Prop:=
 zqR (pin2R k xs.length (.rs a0 xs.length c0)) s env/\zqQ (pinO k xs.length (.rs a0 xs.length c0)) s obj/\scEnv (zp ((k,.hrow e sz xs a0 c0)::obj)) env/\scObj (zp ((k,.hrow e sz xs a0 c0)::obj)) obj
def zzw {w:World} {C:Ctx} {l l':Nat->Option LObj} {k n e sz c0:Nat} {xs:List PV} {a0:Option Addr} {fz:Bool} (hk:l k=some (.row e sz xs fz)) (hn:n=xs.length) (hc:C.cur k=.slice a0 n c0)
  (hrows:∀ j e1 sz1 xs1 fz1 e' sz' xs' fz',l j=some (.row e1 sz1 xs1 fz1)->l' j=some (.row e' sz' xs' fz')->e'=e1/\sz'=sz1/\xs'.length=xs1.length) {v:Value} {q q':LV} (hs:LV.Sc l q) (h:q'=q\/(q=.row k n/\q'=.p (.rs a0 n c0))) (hr:RepL w C l v q):RepL w C l' v q':=by
 rcases h with rfl|⟨rfl,rfl⟩
 ·exact hr.desc hrows hs
 ·rw [zc9 hr _ _ _ _ hk hn.symm,hc];exact .p (.rs _ _ _)
def zew {s:St} (k:Nat) {e sz:Nat} {xs:List PV} (hk:s.look k=some (.row e sz xs false)) (env:Option Addr->Nat->List (Nat × LV)) (obj:Option Addr->Nat->List (Nat × LObj)) (hp:∀ a0 c0,zEg k e sz xs a0 c0 s (env a0 c0) (obj a0 c0)) :
  zec s λs1=>∃ a0 c0,s1=⟨env a0 c0,(k,.hrow e sz xs a0 c0)::obj a0 c0,s.tr,s.stop⟩:=by
 intro X C a w hM h;have hob:=h.obj k _ hk;have hcur:∃ a0 c0,C.cur k=.slice a0 xs.length c0:=by
  obtain ⟨us,how,_⟩:=hob
  rcases how.2 with ⟨f1,f2⟩|⟨gb,cap,cur,f1,_⟩
  ·exact ⟨none,0,by rw [f1,f2]⟩
  ·exact ⟨_,_,f1⟩
 obtain ⟨a0,c0,hc⟩:=hcur;obtain ⟨he,ho,hse,hso⟩:=hp a0 c0;refine ⟨_,C,⟨a0,c0,rfl⟩,?_⟩;show RelC X C (zaD (env a0 c0)) (zp ((k,.hrow e sz xs a0 c0)::obj a0 c0)) s.tr s.stop a w;have was:∀ j o,zp ((k,.hrow e sz xs a0 c0)::obj a0 c0) j=some o->(j=k/\o=.hrow e sz xs a0 c0)\/(j≠k/\∃ o0,s.look j=some o0/\(o0=o\/pinO k xs.length (.rs a0 xs.length c0) o0 o)):=λj o hj=>by
  simp only [zp] at hj
  split at hj
  ·rename_i ej;injection hj with hj;exact .inl ⟨ej,hj.symm⟩
  ·rename_i ej
   rcases zdt ho j o hj with h3|⟨o0,h3,h4⟩
   ·exact .inr ⟨ej,o,h3,.inl rfl⟩
   ·exact .inr ⟨ej,o0,h3,.inr h4⟩
 have hrows:∀ j e1 sz1 xs1 fz1 e' sz' xs' fz',s.look j=some (.row e1 sz1 xs1 fz1)->zp ((k,.hrow e sz xs a0 c0)::obj a0 c0) j=some (.row e' sz' xs' fz')->e'=e1/\sz'=sz1/\xs'.length=xs1.length:=λj e1 sz1 xs1 fz1 e' sz' xs' fz' h1 h2=>by
  rcases was j _ h2 with ⟨_,h3⟩|⟨_,o0,h3,rfl|⟨cs,cs',f,rfl,h5,_⟩⟩
  ·cases h3
  ·rw [h1] at h3;injection h3 with h3;injection h3 with f1 f2 f3 f4;subst f1;subst f2;subst f3;exact ⟨rfl,rfl,rfl⟩
  ·cases h5
 refine h.desc (λj o hj=>?_) (λj o hj=>?_) (λt=>⟨?_,zce hse t⟩)
 ·rcases was j o hj with ⟨rfl,rfl⟩|⟨_,o0,h3,rfl|⟨cs,cs',f,rfl,rfl,_⟩⟩
  ·exact ⟨_,hk,rfl,rfl⟩
  ·exact ⟨_,h3,rfl,rfl⟩
  ·exact ⟨_,h3,rfl,rfl⟩
 ·have sc:j≠k->LObj.Sc (zp ((k,.hrow e sz xs a0 c0)::obj a0 c0)) o:=λej=>by
   simp only [zp,if_neg ej] at hj;exact za4 hso j o hj
  rcases was j o hj with ⟨rfl,rfl⟩|⟨ej,o0,h3,rfl|⟨cs,cs',f,rfl,rfl,h6⟩⟩
  ·exact ⟨⟨hob,hc⟩,trivial⟩
  ·exact ⟨(h.obj j _ h3).look (h.objs j _ h3) hrows,sc ej⟩
  ·obtain ⟨arr,ty,g1,g2,g3⟩:=h.obj j _ h3;have hsc:=h.objs j _ h3;obtain ⟨m1,m2⟩:=zna h6;refine ⟨⟨arr,ty,g1,by omega,λi v q' hv hq=>?_⟩,sc ej⟩
   obtain ⟨q,i1,i2⟩:=m2 i q' hq;exact zzw hk rfl hc hrows (hsc i q i1) i2 (g3 i v q hv i1)
 ·rcases zel he t with h1|⟨p,h1,h2⟩|h1
  ·rw [h1];exact (h.env t).desc hrows (h.envs t)
  ·rw [h2];have hr:=h.env t
   rcases h1 with h1|⟨cs,ps',h1,rfl,h3⟩
   ·exact .p (znq (λ_ _=>hc) hk rfl h1 hr)
   ·rw [h1] at hr;obtain ⟨l1,l2⟩:=zj8 h3;generalize zb2 X a t=v at hr;cases hr with
    | agg g1 g2=>
     refine .p (.agg (by omega) λj u x hu hx=>?_)
     have hj:j < cs.length:=by rw [<-l1];exact (xaa.1 hx).1
     exact znq (λ_ _=>hc) hk rfl (l2 j _ x (xab hj) hx) (g2 j u _ hu (xab hj))
  ·rw [h1];exact .any _
def mltB (r q:PV):List LV->List LV->Prop
 | [],[]=>True
 | x::xs,y::ys=>(y=x\/(x=.p r/\y=.p q))/\mltB r q xs ys
 | _,_=>False
theorem zrG {r q:PV}:∀ {l l':List LV},mltB r q l l'->l'.length=l.length/\∀ (j:Nat) (y:LV),l'[j]?=some y->∃ x,l[j]?=some x/\(y=x\/(x=.p r/\y=.p q))
 | [],[],_=>⟨rfl,λj q h=>by simp at h⟩
 | q::qs,q'::qs',h=>by
  obtain ⟨h1,h2⟩:=zrG h.2;refine ⟨by simp [h1],λj p hp=>?_⟩
  cases j with
  | zero=>simp at hp;subst hp;exact ⟨q,rfl,h.1⟩
  | succ j=>obtain ⟨x,g1,g2⟩:=h2 j p (by simpa using hp);exact ⟨x,by simpa using g1,g2⟩
 | [],_::_,h=>h.elim
 | _::_,[],h=>h.elim
def zxC (r q:PV) (o o':LObj):Prop:=∃ cs cs' fz,o=.box cs fz/\o'=.box cs' fz/\mltB r q cs cs'
def zBb (k e sz m:Nat) (xs:List PV) (a0:Option Addr) (c0:Nat) (s:St) (env:List (Nat × LV)) (obj:List (Nat × LObj)):Prop:=
 zqR (zCM (.rs a0 m c0) (.sl sz (xs.take m))) s env/\zqQ (zxC (.rs a0 m c0) (.sl sz (xs.take m))) s obj/\scEnv (zp ((k,.row e sz xs true)::obj)) env/\scObj (zp ((k,.row e sz xs true)::obj)) obj
def zui {w:World} {B:Nat->Prop} {a0:Option Addr} {n m c0 sz:Nat} {xs:List PV} (h:Rep w B (.slice a0 n c0) (.sl sz xs)) (hm:m<=xs.length):Rep w B (.slice a0 m c0) (.sl sz (xs.take m)):=by
 cases h with
 | sl0=>
  have:m=0:=by simpa using hm
  subst this;exact .sl0
 | sle h=>
  have:m=0:=by simpa using hm
  subst this;exact .sle h
 | sl u h1 h2 h3 h4 h5 h6 h7 h8=>
  have get:∀ (i:Nat) (x:PV),(xs.take m)[i]?=some x->xs[i]?=some x:=λi x hx=>by
   rw [xaF] at hx
   split at hx<;>first|exact hx|cases hx
  exact .sl u h1 h2 (by rw [xaj];omega) (by omega) h5 (λi x hx=>h6 i x (get i x hx)) (λi x j p hx hp=>h7 i x j p (get i x hx) hp) (λi x j p hx hp=>h8 i x j p (get i x hx) hp)
def zgF {s:St} (k m:Nat) {e sz c0:Nat} {xs:List PV} {a0:Option Addr} (env:List (Nat × LV)) (obj:List (Nat × LObj)) (hk:s.look k=some (.hrow e sz xs a0 c0)) (hm:m<=xs.length) (hp:zBb k e sz m xs a0 c0 s env obj) :
  zec s λs1=>s1=⟨env,(k,.row e sz xs true)::obj,s.tr,s.stop⟩:=by
 intro X C a w hM h;obtain ⟨he,ho,hse,hso⟩:=hp;obtain ⟨hob,hc⟩:=h.obj k _ hk;have h1:=h.unh hk;have h2:=h1.freeze (d:=k) (o:=.row e sz xs false) (zi _ _ _) rfl hM
 let l2:=upd (upd s.look k (some (LObj.row e sz xs false))) k (some (LObj.row e sz xs true))
 let C':Ctx:={ C with B:=λb=>C.B b\/blk C k (.row e sz xs false)=some b }
 have h2:RelC X C' s.get l2 s.tr s.stop a w:=h2;have hsl:Rep w C'.B (.slice a0 m c0) (.sl sz (xs.take m)):=zui (zhT h hk) hm;refine ⟨_,C',rfl,?_⟩;show RelC X C' (zaD env) (zp ((k,.row e sz xs true)::obj)) s.tr s.stop a w;have was:∀ j o,zp ((k,.row e sz xs true)::obj) j=some o->(j=k/\o=.row e sz xs true)\/(j≠k/\∃ o0,l2 j=some o0/\(o0=o\/zxC (.rs a0 m c0) (.sl sz (xs.take m)) o0 o)):=λj o hj=>by
  simp only [zp] at hj
  split at hj
  ·rename_i ej;injection hj with hj;exact .inl ⟨ej,hj.symm⟩
  ·rename_i ej;have e2:l2 j=s.look j:=(zw _ _ ej).trans (zw _ _ ej)
   rcases zdt ho j o hj with h3|⟨o0,h3,h4⟩
   ·exact .inr ⟨ej,o,by rw [e2];exact h3,.inl rfl⟩
   ·exact .inr ⟨ej,o0,by rw [e2];exact h3,.inr h4⟩
 have hrows:∀ j e1 sz1 xs1 fz1 e' sz' xs' fz',l2 j=some (.row e1 sz1 xs1 fz1)->zp ((k,.row e sz xs true)::obj) j=some (.row e' sz' xs' fz')->e'=e1/\sz'=sz1/\xs'.length=xs1.length:=λj e1 sz1 xs1 fz1 e' sz' xs' fz' f1 f2=>by
  rcases was j _ f2 with ⟨rfl,h3⟩|⟨_,o0,h3,rfl|⟨cs,cs',f,rfl,h5,_⟩⟩
  ·simp only [l2,zi] at f1;injection f1 with f1;injection f1 with g1 g2 g3 g4;injection h3 with i1 i2 i3 i4;subst g1;subst g2;subst g3;subst i1;subst i2;subst i3;exact ⟨rfl,rfl,rfl⟩
  ·rw [f1] at h3;injection h3 with h3;injection h3 with g1 g2 g3 g4;subst g1;subst g2;subst g3;exact ⟨rfl,rfl,rfl⟩
  ·cases h5
 refine h2.desc (λj o hj=>?_) (λj o hj=>?_) (λt=>⟨?_,zce hse t⟩)
 ·rcases was j o hj with ⟨rfl,rfl⟩|⟨_,o0,h3,rfl|⟨cs,cs',f,rfl,rfl,_⟩⟩
  ·exact ⟨_,zi _ _ _,rfl,rfl⟩
  ·exact ⟨_,h3,rfl,rfl⟩
  ·exact ⟨_,h3,rfl,rfl⟩
 ·have sc:j≠k->LObj.Sc (zp ((k,.row e sz xs true)::obj)) o:=λej=>by
   simp only [zp,if_neg ej] at hj;exact za4 hso j o hj
  rcases was j o hj with ⟨rfl,rfl⟩|⟨ej,o0,h3,rfl|⟨cs,cs',f,rfl,rfl,h6⟩⟩
  ·exact ⟨h2.obj j (.row e sz xs true) (zi _ _ _),trivial⟩
  ·exact ⟨(h2.obj j _ h3).look (h2.objs j _ h3) hrows,sc ej⟩
  ·obtain ⟨arr,ty,g1,g2,g3⟩:=h2.obj j _ h3;have hsc:=h2.objs j _ h3;obtain ⟨m1,m2⟩:=zrG h6;refine ⟨⟨arr,ty,g1,by omega,λi v y hv hy=>?_⟩,sc ej⟩
   obtain ⟨x,i1,rfl|⟨rfl,rfl⟩⟩:=m2 i y hy
   ·exact (g3 i v _ hv i1).desc hrows (hsc i _ i1)
   ·have:=zg (g3 i v _ hv i1);cases this;exact .p hsl
 ·rcases zel he t with h3|⟨p,p',h3,h4,h5⟩|h3
  ·rw [h3];exact (h2.env t).desc hrows (h2.envs t)
  ·rw [h4];have:=h2.env t;rw [h3] at this;exact .p (zrF hsl h5 (zg this))
  ·rw [h3];exact .any _
def Wk (p q:PV):Prop:=∀ (w:World) (B:Nat->Prop) (v:Value),Rep w B v p->Rep w B v q
def Wk.refl (p:PV):Wk p p:=λ_ _ _ h=>h
def Wk.nilsl (sz:Nat):Wk .nilsl (.sl sz []):=λ_ _ _ h=>by cases h;exact .sl0
def Wk.of {p q:PV} (h:Weak p q):Wk p q:=λ_ _ _ hr=>h.rep hr
def Wks:List PV->List PV->Prop
 | [],[]=>True
 | p::ps,q::qs=>Wk p q/\Wks ps qs
 | _,_=>False
theorem Wks.at:∀ {ps qs:List PV},Wks ps qs->ps.length=qs.length/\∀ (j:Nat) (p q:PV),ps[j]?=some p->qs[j]?=some q->Wk p q
 | [],[],_=>⟨rfl,λj p q h=>by simp at h⟩
 | p::ps,q::qs,h=>by
  obtain ⟨h1,h2⟩:=Wks.at h.2;refine ⟨by simp [h1],λj x y hx hy=>?_⟩
  cases j with
  | zero=>simp at hx hy;subst hx;subst hy;exact h.1
  | succ j=>exact h2 j x y (by simpa using hx) (by simpa using hy)
 | [],_::_,h=>h.elim
 | _::_,[],h=>h.elim
theorem Wks.refl:∀ ps:List PV,Wks ps ps
 | []=>trivial
 | p::ps=>⟨Wk.refl p,Wks.refl ps⟩
theorem Wks.app:∀ {ps qs ps' qs':List PV},Wks ps qs->Wks ps' qs'->Wks (ps++ps') (qs++qs')
 | [],[],_,_,_,h=>h
 | _::_,_::_,_,_,h,k=>⟨h.1,Wks.app h.2 k⟩
 | [],_::_,_,_,h,_=>h.elim
 | _::_,[],_,_,h,_=>h.elim
def Wk.agg {ps qs:List PV} (h:Wks ps qs):Wk (.agg ps) (.agg qs):=λw B v hr=>by
 obtain ⟨h1,h2⟩:=h.at;cases hr with
 | agg e1 e2=>
  refine .agg (by omega) λj u y hu hy=>?_
  have hj:j < ps.length:=by rw [h1];exact (xaa.1 hy).1
  exact h2 j _ y (xab hj) hy w B u (e2 j u _ hu (xab hj))
def Wk.tup {ps qs:List PV} (h:Wks ps qs):Wk (.tup ps) (.tup qs):=λw B v hr=>by
 obtain ⟨h1,h2⟩:=h.at;cases hr with
 | tup e1 e2=>
  refine .tup (by omega) λj u y hu hy=>?_
  have hj:j < ps.length:=by rw [h1];exact (xaa.1 hy).1
  exact h2 j _ y (xab hj) hy w B u (e2 j u _ hu (xab hj))
def Wkr:List PV->List PV->Prop
 | [],[]=>True
 | p::ps,q::qs=>Wks p.cells q.cells/\Wkr ps qs
 | _,_=>False
theorem Wkr.at:∀ {ps qs:List PV},Wkr ps qs->ps.length=qs.length/\∀ (j:Nat) (p q:PV),ps[j]?=some p->qs[j]?=some q->Wks p.cells q.cells
 | [],[],_=>⟨rfl,λj p q h=>by simp at h⟩
 | p::ps,q::qs,h=>by
  obtain ⟨h1,h2⟩:=Wkr.at h.2;refine ⟨by simp [h1],λj x y hx hy=>?_⟩
  cases j with
  | zero=>simp at hx hy;subst hx;subst hy;exact h.1
  | succ j=>exact h2 j x y (by simpa using hx) (by simpa using hy)
 | [],_::_,h=>h.elim
 | _::_,[],h=>h.elim
theorem Wkr.refl:∀ ps:List PV,Wkr ps ps
 | []=>trivial
 | p::ps=>⟨Wks.refl _,Wkr.refl ps⟩
theorem Wkr.app:∀ {ps qs ps' qs':List PV},Wkr ps qs->Wkr ps' qs'->Wkr (ps++ps') (qs++qs')
 | [],[],_,_,_,h=>h
 | _::_,_::_,_,_,h,k=>⟨h.1,Wkr.app h.2 k⟩
 | [],_::_,_,_,h,_=>h.elim
 | _::_,[],_,_,h,_=>h.elim
theorem Wkr.map {α:Type} {f g:α->PV}:∀ {l:List α},(∀ x ∈ l,Wks (f x).cells (g x).cells)->Wkr (l.map f) (l.map g)
 | [],_=>trivial
 | x::l,h=>⟨h x (by simp),Wkr.map λy hy=>h y (by simp [hy])⟩
def Wk.sl {sz:Nat} {ps qs:List PV} (h:Wkr ps qs):Wk (.sl sz ps) (.sl sz qs):=λw B v hr=>by
 obtain ⟨h1,h2⟩:=h.at;cases hr with
 | sl0=>
  have:qs=[]:=xaq (by simpa using h1.symm)
  subst this;exact .sl0
 | sle hc=>
  have:qs=[]:=xaq (by simpa using h1.symm)
  subst this;exact .sle hc
 | sl u g1 g2 g3 g4 g5 g6 g7 g8=>
  have get:∀ (i:Nat) (y:PV),qs[i]?=some y->∃ x,ps[i]?=some x/\Wks x.cells y.cells:=λi y hy=>by
   have hi:i < ps.length:=by rw [h1];exact (xaa.1 hy).1
   exact ⟨_,xab hi,h2 i _ y (xab hi) hy⟩
  have cell:∀ (i:Nat) (y:PV) (j:Nat) (q:PV),qs[i]?=some y->y.cells[j]?=some q->∃ x p,ps[i]?=some x/\x.cells[j]?=some p/\Wk p q:=λi y j q hy hq=>by
   obtain ⟨x,k1,k2⟩:=get i y hy;obtain ⟨e1,e2⟩:=k2.at;have hj:j < x.cells.length:=by rw [e1];exact (xaa.1 hq).1
   exact ⟨x,_,k1,xab hj,e2 j _ q (xab hj) hq⟩
  refine .sl u g1 g2 (by omega) g4 g5 (λi y hy=>?_) (λi y j q hy hq=>?_) (λi y j q hy hq=>?_)
  ·obtain ⟨x,k1,k2⟩:=get i y hy;rw [<-k2.at.1];exact g6 i x k1
  ·obtain ⟨x,p,k1,k2,_⟩:=cell i y j q hy hq;exact g7 i x j p k1 k2
  ·obtain ⟨x,p,k1,k2,k3⟩:=cell i y j q hy hq;exact k3 w B _ (g8 i x j p k1 k2)
def zb9 {P:Program} {f:FuncId} {args:List PV} {r r':PV} (h:Pure P f args r) (hw:Wk r r'):Pure P f args r':=
 ⟨h.1,λw B vs hB hvs=>Calls.mono (h.2 w B vs hB hvs) λ_ w' ⟨u,e,h1,h2⟩=>⟨u,e,h1,hw w' _ u h2⟩⟩
section
variable {X:Fx} {C:Ctx} {g:Nat->LV} {look:Nat->Option LObj} {tr:List (List PV)} {stop:Bool} {a:Act} {w:World} {P:Program} {s:St}
def zpo {oper:Oper} {z:List PV} {pl:List (Nat × Nat)} {l:List AOpd} (h:zat P oper=some (.build z pl,l)):∃ t parts,oper.op=.build t parts/\zH P t=some (.agg z)/\zV P t (parts.toList.map (·.1))=some pl/\zau (parts.toList.map (·.2))=some l:=by
 unfold zat at h
 split at h
 all_goals first
  | (obtain ⟨x',h1,e⟩:=xac.1 h;injection e with e1 e2;cases e1;done)
  | skip
 all_goals (repeat' split at h)
 all_goals (try (rw [xak] at h;obtain ⟨_,_,h⟩:=h))
 all_goals (try (rw [xak] at h;obtain ⟨_,_,h⟩:=h))
 all_goals (repeat' split at h)
 all_goals first
  | (simp at h;done)
  | (simp only [xaC,xcl,AOp.build.injEq] at h;obtain ⟨⟨rfl,rfl⟩,rfl⟩:=h;exact ⟨_,_,‹_›,‹_›,‹_›,‹_›⟩)
def zii {d:Option Nat} {z:List PV} {pl:List (Nat × Nat)} {args:List AOpd} {af:List Nat} (hcn:zQ (zd s args)=true) (hok:fillLOk s.look z.length pl (uns (zd s args))) :
  zdm P s ⟨d,.build z pl,args,none,af⟩ λs'=>s'=s.set d (.agg (zd9 (z.map .p) pl (uns (zd s args)))):=by
 intro X C a w ops oper ro K Q hc hM h hK;have hr:=zak hc;have hdst:∀ k,d=some k->k < X.N:=λk hk=>hr.hdst k (by rw [<-hr.hd];exact hk)
 have hgo:gOf s (none:Option (Nat × Bool))=some true:=rfl;rw [zS h hr hgo,if_pos rfl];obtain ⟨t,parts,hop,hz,hpl,hl⟩:=zpo hr.hc;have hrs:=zay hl (λ_ h=>h) (zao h rfl hcn)
 have e0:args.map (λy=>(y.ev s).un)=uns (zd s args):=by simp [uns,zd]
 rw [e0] at hrs;obtain ⟨u,w',C',e1,e2,e3,e4⟩:=zfp h hop hz hpl hrs hok;refine zbl (zaI hr.hc) e1 ?_;rw [<-hr.hd];exact hK _ _ _ _ rfl (by rw [(zX _ _ _).1,(zX _ _ _).2];exact zal e2 hdst e3 e4)
end
def zhu {P:Program} {ts:List (List PV)} {K:St->List Ft->Prop} {acc:List Ft} {s:St} {d:Option Nat} {z:List PV} {pl:List (Nat × Nat)} {args:List AOpd} {af:List Nat} {r:List RO} {zs us:List LV} (hu:uns (zd s args)=us) (hcn:zQ (zd s args)=true) (hok:fillLOk s.look z.length pl us) (hz:zd9 (z.map .p) pl us=zs)
  (hn:zj P ts false K r (s.set d (.agg zs)) acc):zj P ts false K (⟨d,.build z pl,args,none,af⟩::r) s acc:=by
 subst hu;exact zeg (zii hcn hok) λ_ e=>by rw [e,hz];exact hn
section
variable {P:Program} {G:Cfg} {Q:zZ} {ts:List (List PV)} {dr:Bool} {K:St->List Ft->Prop} {acc:List Ft} {d:Option Nat} {f:Nat} {args:List AOpd} {af:List Nat} {r:List RO} {s:St} {vs:List LV} {res:LV} {obj obj':List (Nat × LObj)}
def zld (l:List (Nat × Nat)) {fs cs us:List LV} (hf:Acts P f vs obj res obj') (hn:zJ dr (zj P ts dr K) r ((s.wrs (zbF (rn l) obj')).set d (res.ren (rn l))) (z5 dr acc s ⟨d,.callv,args,none,af⟩ (zbF (rn l) obj')))
  (hu:uns (zd s args)=.fn (.func f) fs cs::us:=by first|exact rnE|fail)
  (ha:fs++us++cs=rens (rn l) vs:=by first|exact rnE|fail)
  (hp:zQ (zd s args)=true:=by first|exact rnD|fail)
  (h1:lentO s (rn l) obj:=by first|exact rnT|fail)
  (h2:newO s (rn l) obj obj':=by first|exact rnO|fail)
  (h3:(obj'.map λx=>rn l x.1).Nodup:=by first|decide|(simp only [xag,xav];decide)|simp):zj P ts dr K (⟨d,.callv,args,none,af⟩::r) s acc:=
 zoo (rn l) hf hu ha hp (zd4 h1 h2 h3) (zB hn)
def zeS (l:List (Nat × Nat)) (hf:Acts P f vs obj res obj') (hn:zj P ts dr K r ((s.wrs (zbF (rn l) obj')).set d (res.ren (rn l))) (z5 dr acc s ⟨d,.call f,args,none,af⟩ (zbF (rn l) obj')))
  (ha:uns (zd s args)=rens (rn l) vs:=by first|exact rnE|fail)
  (hp:zQ (zd s args)=true:=by first|exact rnD|fail)
  (h1:lentO s (rn l) obj:=by first|exact rnT|fail)
  (h2:newO s (rn l) obj obj':=by first|exact rnO|fail)
  (h3:(obj'.map λx=>rn l x.1).Nodup:=by first|decide|(simp only [xag,xav];decide)|simp):zj P ts dr K (⟨d,.call f,args,none,af⟩::r) s acc:=
 zjJ (rn l) hf ha hp (zd4 h1 h2 h3) hn
end
def zbA (m:Nat->Nat) (l:List LV):LV.ren m (.agg l)=.agg (rens m l):=by simp only [LV.ren]
def zbz (m:Nat->Nat) (l:List LV):LV.ren m (.tup l)=.tup (rens m l):=by simp only [LV.ren]
section
variable {rs:List RV} {res:LV} {obj obj':List (Nat × LObj)} {s:St} {pre:Prop} {lvs:List LV}
def RetA.mk (h1:keepO s obj':=by first|exact kpT|fail) (h2:keepG s obj:=by first|exact kpT|fail) (h3:resL s rs=some (pre,lvs):=by first|rfl|(simp only [resL];rfl)) (hp:pre:=by first|trivial|omega|exact kpT|fail) (hl:lvs=[res]:=by first|rfl|(simp;done)) (h4:scP (zp obj') res:=by first|exact kpT|fail):RetA rs res obj obj' s:=
 ⟨h1,h2,pre,lvs,h3,hp,.inl ⟨hl,h4⟩⟩
def RetA.mkP {pre2:Prop} {vs:List PV} {ks:List Nat} {v:PV} (h1:keepO s obj':=by first|exact kpT|fail) (h2:keepG s obj:=by first|exact kpT|fail) (h3:resL s rs=some (pre,lvs):=by first|rfl|(simp only [resL];rfl)) (hp:pre:=by first|trivial|omega|exact kpT|fail) (h5:toPVs s.look lvs=some (pre2,vs,ks):=by first|rfl|(simp only [qS,qe,Nat.reduceEqDiff,reduceIte,Nat.reduceBEq]<;>rfl)) (hp2:pre2:=by first|trivial|omega|exact kpT|fail) (hw:Weak (tupOf vs) v:=by exact .refl _) (hk:∀ k ∈ ks,zp obj' k=none:=by intro k hk;simp at hk;subst hk;rfl):RetA rs (.p v) obj obj' s:=
 ⟨h1,h2,pre,lvs,h3,hp,.inr (.inl ⟨pre2,vs,ks,v,h5,hp2,hw,rfl,hk⟩)⟩
def RetA.mkT {x y:LV} {r:List LV} (h1:keepO s obj':=by first|exact kpT|fail) (h2:keepG s obj:=by first|exact kpT|fail) (h3:resL s rs=some (pre,lvs):=by first|rfl|(simp only [resL];rfl)) (hp:pre:=by first|trivial|omega|exact kpT|fail) (hl:lvs=x::y::r:=by first|rfl|(simp;done)) (h4:scP (zp obj') (.tup (x::y::r)):=by first|exact kpT|fail):RetA rs (.tup (x::y::r)) obj obj' s:=
 ⟨h1,h2,pre,lvs,h3,hp,.inr (.inr ⟨x,y,r,hl,rfl,h4⟩)⟩
end
def zlG (R:St->Prop) (Q:zZ):zZ
 | .normal,s=>R s
 | .ret,s=>Q .ret s
 | .exit i,s=>Q (.exit i) s
def nk_n (R:St->Prop) (Q:zZ) (s:St):zlG R Q .normal s=R s:=rfl
def nk_e (R:St->Prop) (Q:zZ) (i:Nat) (s:St):zlG R Q (.exit i) s=Q (.exit i) s:=rfl
def zqw {G:Cfg} {c:AC} {s:St} {Q:zZ} (st1:Nat->St) (st2:Nat->HD->St) (n i0:Nat) (hi:i0 < n) (h0:Cov s (st1 0)) (r1:∀ k,k < i0->Run G c (st1 k) (zlG (λs'=>Cov s' (st1 (k+1))) Q))
  (r2:Run G c (st1 i0) (zlG (λs'=>∃ i,Cov s' (st2 (i0+1) i)) Q)) (r3:∀ k i,i0 < k->k < n->Run G c (st2 k i) (zlG (λs'=>Cov s' (st2 (k+1) i)) Q)) (r4:∀ i,Run G c (st2 n i) (zlG (λ_=>False) Q)):Run G (.loop c) s Q:=by
 refine zh (κ:=Nat × HD) (λκ=>if κ.1<=i0 then st1 κ.1 else st2 κ.1 κ.2) (λκ=>κ.1<=n) (λκ=>n - κ.1) (0,default) (by simpa using h0) (xa5 _) ?_
 rintro ⟨k,i⟩ hk;simp only at hk ⊢;have step:∀ {R:St->Prop} {S:St},(∀ s',R s'->∃ k',k'<=n/\k < k'/\k < n/\∃ i,Cov s' (if k'<=i0 then st1 k' else st2 k' i))->Run G c S (zlG R Q)->Run G c S (loopK (λκ:Nat × HD=>if κ.1<=i0 then st1 κ.1 else st2 κ.1 κ.2) (λκ=>κ.1<=n) (λκ=>n - κ.1) (k,i) Q):=λhR h=>zhr (λe s' he=>by
  cases e with
  | normal=>
   obtain ⟨k',h1,h2,h3,i',h4⟩:=hR s' he;exact ⟨(k',i'),h1,by simp only;omega,h4⟩
  | ret=>exact he
  | exit j=>exact he) h
 by_cases h1:k<=i0
 ·rw [if_pos h1]
  rcases Nat.lt_or_ge k i0 with h2|h2
  ·exact step (λs' he=>⟨k+1,by omega,by omega,by omega,i,by rw [if_pos (by omega)];exact he⟩) (r1 k h2)
  ·obtain rfl:k=i0:=by omega
   exact step (λs' ⟨i',he⟩=>⟨k+1,by omega,by omega,by omega,i',by rw [if_neg (by omega)];exact he⟩) r2
 ·rw [if_neg h1]
  rcases Nat.lt_or_ge k n with h2|h2
  ·exact step (λs' he=>⟨k+1,by omega,by omega,by omega,i,by rw [if_neg (by omega)];exact he⟩) (r3 k i (by omega) h2)
  ·obtain rfl:k=n:=by omega
   exact step (λs' he=>he.elim) (r4 i)
section
variable {P:Program} {G:Cfg} {Q:zZ} {ts:List (List PV)} {K:St->List Ft->Prop} {acc:List Ft} {d:Option Nat} {f:Nat} {args:List AOpd} {af:List Nat} {r:List RO} {s:St} {vs:List LV} {res:HD->LV} {obj:List (Nat × LObj)} {obj':HD->List (Nat × LObj)}
def zop (l:List (Nat × Nat)) (hf:ActsE P f vs obj res obj') (hn:∀ i,zJ false (zj P ts false K) r ((s.wrs (zbF (rn l) (obj' i))).set d ((res i).ren (rn l))) acc)
  (ha:uns (zd s args)=rens (rn l) vs:=by first|exact rnE|fail)
  (hp:zQ (zd s args)=true:=by first|exact rnD|fail)
  (h1:lentO s (rn l) obj:=by first|exact rnT|fail)
  (h2:∀ i,newO s (rn l) obj (obj' i):=by intro i;first|exact rnO|fail)
  (h3:∀ i,((obj' i).map λx=>rn l x.1).Nodup:=by intro i;first|decide|(simp only [xag,xav];decide)|simp):zj P ts false K (⟨d,.call f,args,none,af⟩::r) s acc:=
 zjK (rn l) hf ha hp (λi=>zd4 h1 (h2 i) (h3 i)) (λi=>zB (hn i))
def zf7 (l:List (Nat × Nat)) (hf:ActsE P f vs obj res obj') {fs cs:List PV} {us:List LV} (hn:∀ i,zJ false (zj P ts false K) r ((s.wrs (zbF (rn l) (obj' i))).set d ((res i).ren (rn l))) acc)
  (hu:uns (zd s args)=.p (.fn (.func f) fs cs)::us:=by first|exact rnE|fail)
  (ha:fs.map .p++us++cs.map .p=rens (rn l) vs:=by first|exact rnE|fail)
  (hp:zQ (zd s args)=true:=by first|exact rnD|fail)
  (h1:lentO s (rn l) obj:=by first|exact rnT|fail)
  (h2:∀ i,newO s (rn l) obj (obj' i):=by intro i;first|exact rnO|fail)
  (h3:∀ i,((obj' i).map λx=>rn l x.1).Nodup:=by intro i;first|decide|(simp only [xag,xav];decide)|simp):zj P ts false K (⟨d,.callv,args,none,af⟩::r) s acc:=
 zht (rn l) hf hu ha hp (λi=>zd4 h1 (h2 i) (h3 i)) (λi=>zB (hn i))
end
def zyP (rs:List RV) (res:HD->LV) (obj:List (Nat × LObj)) (obj':HD->List (Nat × LObj)):zZ
 | .normal,s=>∃ i,ztr rs (res i) obj (obj' i) s
 | .ret,s=>∃ i,ztr rs (res i) obj (obj' i) s
 | .exit _,_=>False
section
variable (rs:List RV) (res:HD->LV) (obj:List (Nat × LObj)) (obj':HD->List (Nat × LObj)) (s:St)
def reN:zyP rs res obj obj' .normal s=∃ i,ztr rs (res i) obj (obj' i) s:=rfl
def reR:zyP rs res obj obj' .ret s=∃ i,ztr rs (res i) obj (obj' i) s:=rfl
def zgq (m:Nat->Nat) (e sz:Nat) (xs:List PV) (a0:Option Addr) (c0:Nat):(LObj.hrow e sz xs a0 c0).ren m=.hrow e sz xs a0 c0:=rfl
end
def zeE {P:Program} {f:FuncId} {c:AC} {rs:List RV} {n:Nat} (h:zeB P f=some (c,rs,n)) {args:List LV} {obj:List (Nat × LObj)} {obj':HD->List (Nat × LObj)} {res:HD->LV} (hn:args.length<=n)
  (hsa:scPs (zp obj) args) (hso:scObj (zp obj) obj) (hnf:zzC obj) (hso':∀ i,scObj (zp (obj' i)) (obj' i)) (hfol:∀ i,zb1 (zp (obj' i)) obj)
  (hrun:∀ X:Fx,X.N=n->Run ⟨P,X,none,[]⟩ c (zA args obj) (zyP rs res obj obj')):ActsE P f args obj res obj':=
 znZ h hn hsa hso hnf hso' hfol λX hX hG code hc C a w hr=>
  wpIn_mono (hrun X hX hG code hc C a w hr) λe a1 w1 hq=>by
   obtain ⟨s1,C1,h1,h2⟩:=hq;have key:(∃ i,ztr rs (res i) obj (obj' i) s1)->∃ s2 C2,RelC X C2 s2.get s2.look s2.tr s2.stop a1 w1/\∃ i,RetA rs (res i) obj (obj' i) s2:=λ⟨i,h⟩=>by
    rcases h with h|⟨k,e,sz,env,o,ho,h⟩
    ·exact ⟨s1,C1,h1,i,h⟩
    ·obtain ⟨C2,h2⟩:=h1.own ho;exact ⟨⟨env,(k,.row e sz [] false)::o,s1.tr,s1.stop⟩,C2,h2,i,h⟩
   cases e with
   | normal=>obtain ⟨s2,C2,h3,h4⟩:=key h2;exact ⟨s2,C2,h3,h4⟩
   | ret=>obtain ⟨s2,C2,h3,h4⟩:=key h2;exact ⟨s2,C2,h3,h4⟩
   | exit i=>exact h2.elim
   | goto l=>exact h2.elim
   | panic c=>exact h2.elim
   | outgrown=>exact h2.elim
def RetA.mkE {t:Nat} {res:LV} {obj obj':List (Nat × LObj)} {s:St} (h1:keepO s obj':=by first|exact kpT|fail) (h2:keepG s obj:=by first|exact kpT|fail) (h3:s.get t=res:=by first|exact kpT|fail) (h4:scP (zp obj') res:=by first|exact kpT|fail):RetA [.tmp t] res obj obj' s:=
 ⟨h1,h2,True,[res],by simp only [resL,h3];rfl,trivial,.inl ⟨rfl,h4⟩⟩
section
variable {P:Program} {G:Cfg} {Q:zZ} {ts:List (List PV)} {K:St->List Ft->Prop} {acc:List Ft} {d:Option Nat} {f:Nat} {args:List AOpd} {af:List Nat} {r:List RO} {s:St} {vs:List LV} {res:HD->LV} {obj:List (Nat × LObj)} {obj':HD->List (Nat × LObj)}
def zoq (l:List (Nat × Nat)) (hf:ActsE P f vs obj res obj') (hn:∀ i,zj P ts false K r ((s.wrs (zbF (rn l) (obj' i))).set d ((res i).ren (rn l))) acc)
  (ha:uns (zd s args)=rens (rn l) vs:=by first|exact rnE|fail)
  (hp:zQ (zd s args)=true:=by first|exact rnD|fail)
  (h1:lentO s (rn l) obj:=by first|exact rnT|fail)
  (h2:∀ i,newO s (rn l) obj (obj' i):=by intro i;first|exact rnO|fail)
  (h3:∀ i,((obj' i).map λx=>rn l x.1).Nodup:=by intro i;first|decide|(simp only [xag,xav];decide)|simp):zj P ts false K (⟨d,.call f,args,none,af⟩::r) s acc:=
 zjK (rn l) hf ha hp (λi=>zd4 h1 (h2 i) (h3 i)) hn
def zle (l:List (Nat × Nat)) (hf:ActsE P f vs obj res obj') {fs cs:List PV} {us:List LV} (hn:∀ i,zj P ts false K r ((s.wrs (zbF (rn l) (obj' i))).set d ((res i).ren (rn l))) acc)
  (hu:uns (zd s args)=.p (.fn (.func f) fs cs)::us:=by first|exact rnE|fail)
  (ha:fs.map .p++us++cs.map .p=rens (rn l) vs:=by first|exact rnE|fail)
  (hp:zQ (zd s args)=true:=by first|exact rnD|fail)
  (h1:lentO s (rn l) obj:=by first|exact rnT|fail)
  (h2:∀ i,newO s (rn l) obj (obj' i):=by intro i;first|exact rnO|fail)
  (h3:∀ i,((obj' i).map λx=>rn l x.1).Nodup:=by intro i;first|decide|(simp only [xag,xav];decide)|simp):zj P ts false K (⟨d,.callv,args,none,af⟩::r) s acc:=
 zht (rn l) hf hu ha hp (λi=>zd4 h1 (h2 i) (h3 i)) hn
end
def zoZ {s:St} (k:Nat) (env:List (Nat × LV)) (obj:List (Nat × LObj)) {e sz:Nat} {xs:List PV} {a0:Option Addr} {c0:Nat} (hk:s.look k=some (.hrow e sz xs a0 c0)) (hp:zx4 k e sz xs a0 c0 s env obj) :
  zec s λs1=>s1=⟨env,(k,.row e sz xs true)::obj,s.tr,s.stop⟩:=λX C a w hM h=>
 let ⟨C',h1⟩:=h.melt hM hk hp
 ⟨_,C',rfl,h1⟩
theorem zhE {r q a b:PV} (h:Mlt r q a b):∀ (l:List PV) (i:Nat),zhG r q (l.set i a) (l.set i b)
 | [],_=>trivial
 | _::l,0=>⟨h,zgj l⟩
 | _::l,i+1=>⟨.inl (.inl rfl),zhE h l i⟩
section
variable {P:Program} {ts:List (List PV)} {dr:Bool} {K:St->List Ft->Prop} {acc:List Ft} {d:Option Nat} {f:Nat} {args:List AOpd} {af:List Nat} {r:List RO} {s:St} {e sz c0:Nat} {pre:Prop} {vs0 vs xs:List PV} {ks:List Nat} {a0:Option Addr} {res:PV}
def zhs (k:Nat) (ht:toPVs s.look (uns (zd s args))=some (pre,vs0,ks):=by first|exact rE|fail) (hf:Pure P f vs res) (hk:s.look k=some (.hrow e sz xs a0 c0):=by exact rfl) (hm:zeZ (.rs a0 xs.length c0) (.sl sz xs) vs0 vs)
  (hn:zJ dr (zj P ts dr K) r ((s.wrs [(k,.hrow e sz xs a0 c0)]).set d (.p res)) (z5 dr acc s ⟨d,.call f,args,none,af⟩ [(k,.hrow e sz xs a0 c0)]))
  (hcn:zQ (zd s args)=true:=by first|exact rD|fail) (hp:pre:=by first|trivial|exact rD|exact rG|fail) (hfl:res.flat=true:=by exact rfl):zj P ts dr K (⟨d,.call f,args,none,af⟩::r) s acc:=
 zqB k hf ht hcn hp hk hm hfl (zB hn)
end
section
variable {P:Program} {ts:List (List PV)} {dr:Bool} {K:St->List Ft->Prop} {acc:List Ft} {d:Option Nat} {x y:AOpd} {af:List Nat} {r:List RO} {s:St} {e sz by_ c0 sz':Nat} {pre:Prop} {xs ys:List PV} {rd:List Nat} {a0:Option Addr}
def zqG (k n:Nat) (hn:n=xs.length) (hx:(x.ev s).un=.p (.rs a0 n c0):=by first|exact rE|fail) (hel:zaN s.look (y.ev s).un=some (pre,ys,sz',rd):=by first|exact rE|fail) (hk:s.look k=some (.hrow e sz xs a0 c0):=by exact rfl)
  (hcn:zQ (zd s [x,y])=true:=by first|exact rD|fail) (hp:pre:=by first|trivial|exact rD|exact rG|fail) (h1:ys=[]\/sz'=sz:=by exact .inr rfl) (h2:oneAll ys=true:=by exact rfl) (h3:(xs.length+ys.length)*by_<=140737488355328)
  (h:zj P ts dr K r ((s.wrs [(k,.row e sz (xs++ys) false)]).set d (.row k (xs++ys).length)) (z5 dr acc s ⟨d,.app e sz by_,[x,y],none,af⟩ [(k,.row e sz (xs++ys) false)])):zj P ts dr K (⟨d,.app e sz by_,[x,y],none,af⟩::r) s acc:=by
 subst hn;exact zub k hcn hx hk hel hp h1 h2 h3 h
end
theorem zgM (b:Nat):∀ {F:List MapEntry} {j:Nat} {e:MapEntry},(F.map (·.born)).Nodup->F[j]?=some e->e.born=b->F.filter (λx=>!(x.born == b))=F.eraseIdx j
 | [],j,e,_,h,_=>by simp at h
 | x::F,0,e,hn,h,hb=>by
  simp at h;subst h;have hn':=xct.1 (show (x.born::F.map (·.born)).Nodup from hn)
  rw [xaW,if_neg (by simp [hb]),List.eraseIdx_cons_zero]
  refine List.filter_eq_self.2 λy hy=>?_
  have:¬y.born=b:=λk=>hn'.1 (by rw [hb,<-k];exact xca hy)
  simp [this]
 | x::F,j+1,e,hn,h,hb=>by
  have hn':=xct.1 (show (x.born::F.map (·.born)).Nodup from hn)
  have h':F[j]?=some e:=by simpa using h
  have hx:¬x.born=b:=λk=>hn'.1 (by rw [k,<-hb];exact xca (xae h'))
  rw [xaW,if_pos (by simp [hx]),List.eraseIdx_cons_succ,zgM b hn'.2 h' hb]
def Born.nodup {ents:Array MapEntry} {c:Nat} (h:Born ents c ents.size):(ents.toList.map (·.born)).Nodup:=by
 refine xaw.2 λi j hi hj hlt=>?_
 simp only [List.getElem_map,Array.getElem_toList];intro e;have:=h.2.1 i j _ _ (xan (by simpa using hi)) (xan (by simpa using hj)) e
 omega
def zrS (ents:List MapEntry) (seen:Array Nat) (b:Nat):ents.filter (λe=>!(seen.push b).contains e.born)=(ents.filter λe=>!seen.contains e.born).filter λe=>!(e.born == b):=by
 rw [List.filter_filter];refine List.filter_congr λe _=>?_
 by_cases h:e.born=b<;>simp [h,Bool.and_comm]
def zeu (s:St) (k:Nat) (o:LObj):(s.wrs [(k,o)]).look=upd s.look k (some o):=by
 have:=zno s (some (k,o));exact this
section
variable {X:Fx} {C:Ctx} {g:Nat->LV} {look:Nat->Option LObj} {tr:List (List PV)} {stop:Bool} {a:Act} {w:World} {P:Program} {s:St}
def zuh {B:Nat->Prop} {u v:Value} {p q:PV} (h:Rep w B u p) (k:Rep w B v q):Rep w B (.tuple #[.bool true,u,v]) (.tup [.b true,p,q]):=by
 refine .tup rfl λj x y hx hy=>?_
 match j with
 | 0=>simp at hx hy;subst hx;subst hy;exact .b _
 | 1=>simp at hx hy;subst hx;subst hy;exact h
 | 2=>simp at hx hy;subst hx;subst hy;exact k
 | j+3=>simp at hx
def zuj {B:Nat->Prop} {u v:Value} {p q:PV} (h:Rep w B u p) (k:Rep w B v q):Rep w B (.tuple #[u,v]) (.tup [p,q]):=by
 refine .tup rfl λj x y hx hy=>?_
 match j with
 | 0=>simp at hx hy;subst hx;subst hy;exact h
 | 1=>simp at hx hy;subst hx;subst hy;exact k
 | j+2=>simp at hx
def zlJ (h:RelC X C g look tr stop a w) {v:Value} {ty:TypeId} {k:Nat} {rem:List (PV × PV)} {cur:Option (PV × PV)} (hx:RepL w C look v (.it k)) (hk:look k=some (.mit rem cur)) :
  (rem=[]/\(Instr.next v false ty).run P w=.ok (.tuple #[.bool false]) w) \/
  ∃ (j:Nat) (kv:PV × PV) (u:Value) (w':World),rem[j]?=some kv/\(Instr.next v false ty).run P w=.ok u w'/\RelC X C g (upd look k (some (.mit (rem.eraseIdx j) (some kv)))) tr stop a w'/\Rep w' C.B u (.tup [.b true,kv.1,kv.2]):=by
 cases hx
 rcases h.obj k _ hk with ⟨h1,h2,h3⟩|⟨r,seen,ents,clock,h1,h2,h3,h4,h5,h6,h7⟩
 ·refine .inl ⟨h2,?_⟩;simp [Instr.next,getObj,Sem.run,h1]
 ·have hold:∀ x ∈ ents.toList,x.born < clock:=λx hx=>by
   obtain ⟨i,hi⟩:=xaU.1 hx;exact h4.2.2 i x (by simpa using hi)
  have hll:(leftOf ents seen).toList=ents.toList.filter λe=>!seen.contains e.born:=by simp [leftOf]
  rcases run_next_at (P:=P) w ty (C.ρ k) r clock clock seen ents clock h2 h3 hold (xah _) with ⟨g1,g2⟩|⟨e,he,w1,g1,g2⟩
  ·refine .inl ⟨?_,g2⟩;rw [<-hll] at h5;exact xaq (by rw [<-h5];simpa using g1)
  ·rw [hll] at he;obtain ⟨j,hj⟩:=xaU.1 he;have hjl:=(xaa.1 hj).1;obtain ⟨kv,hkv⟩:∃ kv,rem[j]?=some kv:=⟨_,xab (by omega)⟩
   have hh1:w1.heap=w.heap:=by rcases g1 with rfl|rfl<;>rfl
   have hg:w.grownBy (ChangeMaps.setBlock w1 (C.ρ k) (.mapIter (some r) clock (seen.push e.born) clock)) (some (C.ρ k)):=by
    refine ⟨?_,?_,?_,?_,λb hb hne=>?_⟩
    ·rcases g1 with rfl|rfl<;>rfl
    ·rcases g1 with rfl|rfl<;>rfl
    ·rcases g1 with rfl|rfl<;>rfl
    ·simp [ChangeMaps.setBlock,hh1]
    ·simp only [ChangeMaps.setBlock,hh1];rw [xbH (λe=>hne (by rw [e]))]
   have hB:=zir h hk rfl hg;have hit:(ChangeMaps.setBlock w1 (C.ρ k) (.mapIter (some r) clock (seen.push e.born) clock)).heap[C.ρ k]?=some (.mapIter (some r) clock (seen.push e.born) clock):=by
    have:=Mk.lt_of h2;simp [ChangeMaps.setBlock,hh1,this]
   have hrp:=h6 j e kv hj hkv;have hrp':Rep (ChangeMaps.setBlock w1 (C.ρ k) (.mapIter (some r) clock (seen.push e.born) clock)) C.B e.key kv.1/\Rep (ChangeMaps.setBlock w1 (C.ρ k) (.mapIter (some r) clock (seen.push e.born) clock)) C.B e.val kv.2:=⟨hrp.1.mono (λ_ h=>h) hB,hrp.2.mono (λ_ h=>h) hB⟩
   have hmem:e ∈ ents.toList:=(xbM.1 he).1;have hnd:((ents.toList.filter λe=>!seen.contains e.born).map (·.born)).Nodup:=h4.nodup.sublist (List.filter_sublist.map _)
   have hfil:ents.toList.filter (λx=>!(seen.push e.born).contains x.born)=(ents.toList.filter λe=>!seen.contains e.born).eraseIdx j:=by
    rw [zrS,zgM e.born hnd hj rfl]
   refine .inr ⟨j,kv,_,_,hkv,g2,?_,zuh hrp'.1 hrp'.2⟩;refine h.modify hk trivial rfl rfl rfl rfl rfl rfl rfl rfl (λ_ _=>rfl) (λ_ _ _ _ _ _ e=>by cases e) hg ?_ trivial (λb hb=>.inl hb)
   refine .inr ⟨r,seen.push e.born,ents,clock,h1,hit,(hB _ h1).trans h3,h4,?_,?_,?_⟩
   ·rw [hfil,List.length_eraseIdx_of_lt hjl,List.length_eraseIdx_of_lt (by omega),h5]
   ·intro i m kv' hm hkv';rw [hfil] at hm;rw [List.getElem?_eraseIdx] at hm hkv'
    split at hm
    ·rename_i hlt;rw [if_pos hlt] at hkv';exact ⟨(h6 i m kv' hm hkv').1.mono (λ_ h=>h) hB,(h6 i m kv' hm hkv').2.mono (λ_ h=>h) hB⟩
    ·rename_i hlt;rw [if_neg hlt] at hkv';exact ⟨(h6 _ m kv' hm hkv').1.mono (λ_ h=>h) hB,(h6 _ m kv' hm hkv').2.mono (λ_ h=>h) hB⟩
   ·intro kv' hk';injection hk' with hk';subst hk';exact ⟨e,seen,rfl,hmem,hrp'.1,hrp'.2⟩
def zj5 (h:RelC X C g look tr stop a w) {v:Value} {k:Nat} {rem:List (PV × PV)} {kv:PV × PV} (hx:RepL w C look v (.it k)) (hk:look k=some (.mit rem (some kv))) :
  ∃ u,(Instr.entry v).run P w=.ok u w/\Rep w C.B u (.tup [kv.1,kv.2]):=by
 cases hx
 rcases h.obj k _ hk with ⟨_,_,h3⟩|⟨r,seen,ents,clock,h1,h2,h3,h4,h5,h6,h7⟩
 ·cases h3
 ·obtain ⟨m,seen',rfl,a2,a3,a4⟩:=h7 kv rfl;exact ⟨_,run_entry_at w (C.ρ k) r clock seen' ents clock m h2 h3 a2 h4.nodup,zuj a3 a4⟩
def zj0 (h:RelC X C g look tr stop a w) {t kt et:TypeId} {v:Value} {es:List (PV × PV)} {d:Nat} (ht:P.underlying t=some (.map kt et)) (hx:Rep w C.B v (.mp es)) (hd:look d=none) :
  ∃ (fs:List (PV × PV)) (u:Value) (w':World) (C':Ctx),zkW fs es/\(Instr.range t v).run P w=.ok u w'/\RelC X C' g (upd look d (some (.mit fs none))) tr stop a w'/\RepL w' C' (upd look d (some (.mit fs none))) u (.it d):=by
 have go:∀ (fs:List (PV × PV)) (ob:Obj),(Instr.range t v).run P w=.ok (.pointer (some ⟨w.heap.size,0,none⟩)) (w.alloc ob)->MitOk w C.B (some ob) fs none ->
   ∃ (u:Value) (w':World) (C':Ctx),(Instr.range t v).run P w=.ok u w'/\RelC X C' g (upd look d (some (.mit fs none))) tr stop a w'/\RepL w' C' (upd look d (some (.mit fs none))) u (.it d):=by
  intro fs ob hrun hm;have hb:Below w.heap.size w (w.alloc ob):=(Below.refl _ _).alloc (xah _) _;have h1:=h.grow hb C.B (λ_ h=>h) (λb hb=>.inl hb)
  have hw:∀ b,C.B b->(w.alloc ob).heap[b]?=w.heap[b]?:=λb hbb=>by
   have hlt:=h.blt b hbb;show (w.heap.push ob)[b]?=w.heap[b]?;rw [Array.getElem?_push_lt hlt,xan hlt]
  refine ⟨_,_,{ C with ρ:=upd C.ρ d w.heap.size },hrun,?_,?_⟩
  ·refine h1.lay (o:=.mit fs none) hd rfl rfl rfl rfl rfl (λk hk=>zw _ _ hk) (λ_ _=>rfl) ?_ trivial rfl ?_
   ·show MitOk (w.alloc ob) C.B ((w.alloc ob).heap[upd C.ρ d w.heap.size d]?) fs none;rw [zi];exact MitOk.keep (λ_ h=>h) hw (heap_alloc_new w _) hm
   ·intro b hb2;simp only [blk,zi,xaC] at hb2;subst hb2;refine ⟨h.kx.size,by simp,λhbb=>absurd (h.blt _ hbb) (by omega),λk x hk hbk=>?_,λhx=>?_,h.nle⟩
    ·have h2:blk C k x=some w.heap.size:=by cases x<;>exact hbk
     have:=(h.sep k x _ hk h2).2.1;omega
    ·have:=h.marks.lt _ hx;omega
  ·have:=RepL.it (w:=w.alloc ob) (C:={ C with ρ:=upd C.ρ d w.heap.size }) (l:=upd look d (some (.mit fs none))) (k:=d);simp only [zi] at this;exact this
 cases hx with
 | mp0=>
  obtain ⟨u,w',C',a1,a2,a3⟩:=go [] (.mapIter none 0 #[] 0) (by simp [Instr.range,run_underlying ht,run_newObj_alloc]) (.inl ⟨rfl,rfl,rfl⟩)
  exact ⟨_,u,w',C',.inl rfl,a1,a2,a3⟩
 | @mp r ents clock _ fs h1 h2 h0 h3 h4 h5=>
  have hall:ents.toList.filter (λe=>!(#[]:Array Nat).contains e.born)=ents.toList:=List.filter_eq_self.2 λe _=>by simp
  obtain ⟨u,w',C',a1,a2,a3⟩:=go fs (.mapIter (some r) clock #[] clock) (by simp [Instr.range,run_underlying ht,run_newObj_alloc,MapKept.run_getObj_map h2])
   (.inr ⟨r,#[],ents,clock,h1,rfl,h2,by rw [h3.1];exact h3,by rw [hall];simpa using h3.1,λj m kv hm hkv=>by
    rw [hall] at hm;exact ⟨h4 j m kv (by simpa using hm) hkv,h5 j m kv (by simpa using hm) hkv⟩,λkv hk=>by cases hk⟩)
  exact ⟨fs,u,w',C',h0,a1,a2,a3⟩
def zjo {oper:Oper} {n:Nat} {l:List AOpd} (h:zat P oper=some (.mit n,l)):∃ x x',zcc x=some x'/\l=[x'] /\
  ((n=0/\∃ t kt et,oper.op=.range t x/\P.underlying t=some (.map kt et))\/(n=1/\oper.op=.next x false)\/(n=2/\oper.op=.entry x)):=by
 unfold zat at h
 split at h
 all_goals first
  | (obtain ⟨x',h1,e⟩:=xac.1 h;injection e with e1 e2;first|(cases e1;done)|(injection e1 with e1;subst e1;subst e2;first|exact ⟨_,_,h1,rfl,.inr (.inl ⟨rfl,‹_›⟩)⟩|exact ⟨_,_,h1,rfl,.inr (.inr ⟨rfl,‹_›⟩)⟩))
  | skip
 all_goals (repeat' split at h)
 all_goals (try (rw [xak] at h;obtain ⟨_,_,h⟩:=h))
 all_goals (try (rw [xak] at h;obtain ⟨_,_,h⟩:=h))
 all_goals (repeat' split at h)
 all_goals first
  | (simp at h;done)
  | (simp only [xaC,xcl,AOp.mit.injEq] at h;obtain ⟨rfl,rfl⟩:=h;exact ⟨_,_,‹_›,rfl,.inl ⟨rfl,_,_,_,‹_›,‹_›⟩⟩)
def zjD {d:Option Nat} {x:AOpd} {af:List Nat} {k:Nat} {rem:List (PV × PV)} {cur:Option (PV × PV)} (hcn:zQ (zd s [x])=true) (hx:uns (zd s [x])=[.it k]) (hk:s.look k=some (.mit rem cur)) :
  zdm P s ⟨d,.mit 1,[x],none,af⟩ λs'=>(rem=[]/\s'=s.set d (.p (.tup [.b false])))\/∃ j kv,rem[j]?=some kv/\s'=(s.wrs [(k,.mit (rem.eraseIdx j) (some kv))]).set d (.p (.tup [.b true,kv.1,kv.2])):=by
 intro X C a w ops oper ro K Q hc hM h hK;have hr:=zak hc;have hdst:∀ k,d=some k->k < X.N:=λk hk=>hr.hdst k (by rw [<-hr.hd];exact hk)
 rw [zS h hr (show gOf s (none:Option (Nat × Bool))=some true from rfl),if_pos rfl]
 obtain ⟨y,y',hy,hl,ho⟩:=zjo hr.hc;injection hl with hl;subst hl;have hop:oper.op=.next y false:=by rcases ho with ⟨h,_⟩|⟨_,h⟩|⟨h,_⟩<;>first|exact h|omega
 have hi:=(zk2 (zao h rfl hcn) hy).1;have e0:(x.ev s).un=.it k:=by simpa [uns,zd] using hx
 rw [e0] at hi
 rcases zlJ (P:=P) (ty:=oper.type) h hi hk with ⟨h1,h2⟩|⟨j,kv,u,w',h1,h2,h3,h4⟩
 ·refine zbl (v:=.tuple #[.bool false]) (w':=w) (zaI hr.hc) (.inl (by simp [execOp,hop,h2])) ?_
  rw [<-hr.hd];have hv:Rep w C.B (.tuple #[.bool false]) (.tup [.b false]):=.tup rfl λj v p hv hp=>by
   match j with
   | 0=>simp at hv hp;subst hv;subst hp;exact .b _
   | j+1=>simp at hv
  exact hK _ _ _ _ (.inl ⟨h1,rfl⟩) (by rw [(zX _ _ _).1,(zX _ _ _).2];exact zal h hdst (.p hv) (.p _))
 ·refine zbl (v:=u) (w':=w') (zaI hr.hc) (.inl (by simp [execOp,hop,h2])) ?_
  rw [<-hr.hd];refine hK _ C _ _ (.inr ⟨j,kv,h1,rfl⟩) ?_;rw [(zX _ _ _).1,(zX _ _ _).2,(zaQ _ _).1,(zaQ _ _).2];exact zal (s:=s.wrs [(k,.mit (rem.eraseIdx j) (some kv))]) (by rw [zcK,zeu];exact h3) hdst (.p h4) (.p _)
def zih {d:Option Nat} {x:AOpd} {af:List Nat} {k:Nat} {rem:List (PV × PV)} {kv:PV × PV} (hcn:zQ (zd s [x])=true) (hx:uns (zd s [x])=[.it k]) (hk:s.look k=some (.mit rem (some kv))) :
  zdm P s ⟨d,.mit 2,[x],none,af⟩ λs'=>s'=s.set d (.p (.tup [kv.1,kv.2])):=by
 intro X C a w ops oper ro K Q hc hM h hK;have hr:=zak hc;have hdst:∀ k,d=some k->k < X.N:=λk hk=>hr.hdst k (by rw [<-hr.hd];exact hk)
 rw [zS h hr (show gOf s (none:Option (Nat × Bool))=some true from rfl),if_pos rfl]
 obtain ⟨y,y',hy,hl,ho⟩:=zjo hr.hc;injection hl with hl;subst hl;have hop:oper.op=.entry y:=by rcases ho with ⟨h,_⟩|⟨h,_⟩|⟨_,h⟩<;>first|exact h|omega
 have hi:=(zk2 (zao h rfl hcn) hy).1;have e0:(x.ev s).un=.it k:=by simpa [uns,zd] using hx
 rw [e0] at hi;obtain ⟨u,h1,h2⟩:=zj5 (P:=P) h hi hk;refine zbl (v:=u) (w':=w) (zaI hr.hc) (.inl (by simp [execOp,hop,h1])) ?_
 rw [<-hr.hd];exact hK _ _ _ _ rfl (by rw [(zX _ _ _).1,(zX _ _ _).2];exact zal h hdst (.p h2) (.p _))
def zig {d:Nat} {x:AOpd} {af:List Nat} {es:List (PV × PV)} (hcn:zQ (zd s [x])=true) (hx:uns (zd s [x])=[.p (.mp es)]) (hd:s.look d=none) :
  zdm P s ⟨some d,.mit 0,[x],none,af⟩ λs'=>∃ fs,zkW fs es/\s'=(s.wrs [(d,.mit fs none)]).set (some d) (.it d):=by
 intro X C a w ops oper ro K Q hc hM h hK;have hr:=zak hc;have hdst:∀ k,some d=some k->k < X.N:=λk hk=>hr.hdst k (by rw [<-hr.hd];exact hk)
 rw [zS h hr (show gOf s (none:Option (Nat × Bool))=some true from rfl),if_pos rfl]
 obtain ⟨y,y',hy,hl,ho⟩:=zjo hr.hc;injection hl with hl;subst hl;obtain ⟨t,kt,et,hop,ht⟩:∃ t kt et,oper.op=.range t y/\P.underlying t=some (.map kt et):=by rcases ho with ⟨_,h⟩|⟨h,_⟩|⟨h,_⟩<;>first|exact h|omega
 have hi:=(zk2 (zao h rfl hcn) hy).1;have e0:(x.ev s).un=.p (.mp es):=by simpa [uns,zd] using hx
 rw [e0] at hi;obtain ⟨fs,u,w',C',h1,h2,h3,h4⟩:=zj0 (P:=P) h ht (zg hi) hd;refine zbl (v:=u) (w':=w') (zaI hr.hc) (.inl (by simp [execOp,hop,h2])) ?_
 rw [<-hr.hd];refine hK _ C' _ _ ⟨fs,h1,rfl⟩ ?_;rw [(zX _ _ _).1,(zX _ _ _).2,(zaQ _ _).1,(zaQ _ _).2];exact zal (s:=s.wrs [(d,.mit fs none)]) (by rw [zcK,zeu];exact h3) hdst (by rw [zeu];exact h4) (.im (by rw [zeu];exact zi _ _ _))
end
section
variable {P:Program} {ts:List (List PV)} {K:St->List Ft->Prop} {acc:List Ft} {af:List Nat} {r:List RO} {s:St} {x:AOpd}
def zol {d:Nat} {es:List (PV × PV)} (hn:∀ fs,zkW fs es->zJ false (zj P ts false K) r ((s.wrs [(d,.mit fs none)]).set (some d) (.it d)) acc)
  (hx:uns (zd s [x])=[.p (.mp es)]:=by first|exact rnE|fail) (hcn:zQ (zd s [x])=true:=by first|exact rnD|fail) (hd:s.look d=none:=by first|exact rnE|fail):zj P ts false K (⟨some d,.mit 0,[x],none,af⟩::r) s acc:=
 zeg (zig hcn hx hd) λs' ⟨fs,h1,h2⟩=>by rw [h2];exact zB (hn fs h1)
def zqv {d:Option Nat} {k:Nat} {rem:List (PV × PV)} {cur:Option (PV × PV)} (h0:rem=[]->zJ false (zj P ts false K) r (s.set d (.p (.tup [.b false]))) acc)
  (hn:∀ j kv,rem[j]?=some kv->zJ false (zj P ts false K) r ((s.wrs [(k,.mit (rem.eraseIdx j) (some kv))]).set d (.p (.tup [.b true,kv.1,kv.2]))) acc)
  (hx:uns (zd s [x])=[.it k]:=by first|exact rnE|fail) (hk:s.look k=some (.mit rem cur):=by first|exact rnE|fail) (hcn:zQ (zd s [x])=true:=by first|exact rnD|fail):zj P ts false K (⟨d,.mit 1,[x],none,af⟩::r) s acc:=
 zeg (zjD hcn hx hk) λs' h=>by
  rcases h with ⟨h1,h2⟩|⟨j,kv,h1,h2⟩
  ·rw [h2];exact zB (h0 h1)
  ·rw [h2];exact zB (hn j kv h1)
def zom {d:Option Nat} {k:Nat} {rem:List (PV × PV)} {kv:PV × PV} (hn:zJ false (zj P ts false K) r (s.set d (.p (.tup [kv.1,kv.2]))) acc)
  (hx:uns (zd s [x])=[.it k]:=by first|exact rnE|fail) (hk:s.look k=some (.mit rem (some kv)):=by first|exact rnE|fail) (hcn:zQ (zd s [x])=true:=by first|exact rnD|fail):zj P ts false K (⟨d,.mit 2,[x],none,af⟩::r) s acc:=
 zeg (zih hcn hx hk) λs' h=>by rw [h];exact zB hn
end
noncomputable abbrev qP:Program:=prog
def qT:((((((zI qP 25=some true/\zI qP 31=some true)/\(zI qP 3=some false/\zI qP 44=some true))/\((zI qP 9=some false/\zI qP 55=some true)/\(zI qP 33=some true/\(zI qP 26=some false/\zI qP 27=some false))))/\(((zI qP 58=some true/\zI qP 73=some true)/\(zI qP 63=some true/\(zI qP 34=some false/\zI qP 75=some true)))/\((zI qP 41=some false/\zI qP 22=some false)/\(zI qP 37=some true/\(zI qP 35=some false/\zI qP 87=some false)))))/\((((zI qP 86=some true/\zI qP 89=some true)/\(zI qP 23=some false/\(zI qP 91=some true/\zI qP 42=some false)))/\((zI qP 92=some true/\zI qP 50=some false)/\(zI qP 67=some true/\(zI qP 120=some true/\zI qP 46=some false))))/\(((zI qP 153=some true/\zI qP 177=some true)/\(zI qP 115=some false/\(zI qP 48=some false/\zI qP 141=some false)))/\((zI qP 247=some false/\zI qP 284=some true)/\(zI qP 281=some false/\(zI qP 4=some false/\zI qP 53=some false))))))/\(((((zI qP 298=some true/\bytesOf qP 3=some 8)/\(bytesOf qP 55=some 40/\(bytesOf qP 58=some 96/\bytesOf qP 73=some 40)))/\((bytesOf qP 75=some 32/\bytesOf qP 9=some 16)/\(bytesOf qP 89=some 216/\(bytesOf qP 37=some 216/\bytesOf qP 86=some 32))))/\(((bytesOf qP 91=some 160/\bytesOf qP 92=some 160)/\(bytesOf qP 120=some 80/\(bytesOf qP 50=some 8/\bytesOf qP 153=some 16)))/\((bytesOf qP 177=some 112/\bytesOf qP 87=some 24)/\((zcX qP 10 63=some [1,1]/\qP.eqGuardType qP.depth 63=false)/\((zcX qP 10 55=some [2,1,2]/\qP.eqGuardType qP.depth 55=false)/\(zcX qP 10 86=some [2,1,1]/\qP.eqGuardType qP.depth 86=false))))))/\(((((zcX qP 10 284=some [1,1,1]/\qP.eqGuardType qP.depth 284=false)/\zk0 qP 9=some ([2],false))/\(zk0 qP 3=some ([1],false)/\(zk0 qP 298=some ([2,2],true)/\zV qP 55 [0,1,2]=some [(0,1),(1,1),(2,1)])))/\((zV qP 63 [0,1]=some [(0,1),(1,1)]/\zV qP 58 [0,1,4,5,7]=some [(0,1),(1,1),(4,1),(5,1),(7,1)])/\(zV qP 63 []=some []/\(zV qP 37 []=some []/\zV qP 31 [0,1,2]=some [(0,1),(1,1),(2,1)]))))/\(((zV qP 33 [0,1,2,4,6,7,9]=some [(0,1),(1,1),(2,1),(4,1),(6,3),(9,1),(11,1)]/\zV qP 44 []=some [])/\(zV qP 86 [0,1,2]=some [(0,1),(1,1),(2,1)]/\(zV qP 89 [0,1,3]=some [(0,13),(13,1),(15,1)]/\zV qP 58 [0,1,2,3]=some [(0,1),(1,1),(2,1),(3,1)])))/\((zV qP 67 [0,1,2,3,5,6]=some [(0,1),(1,1),(2,1),(3,1),(5,1),(6,1)]/\zV qP 73 [0,1,2]=some [(0,1),(1,2),(3,1)])/\(zV qP 89 [0,1]=some [(0,13),(13,1)]/\(zV qP 153 [0,1]=some [(0,1),(1,1)]/\zV qP 44 [0,1]=some [(0,1),(1,1)])))))))/\((((((zV qP 224 [0]=some [(0,1)]/\zV qP 120 [0,1,2,3,4,5,6]=some [(0,1),(1,1),(2,1),(3,1),(4,1),(5,1),(6,1)])/\(zV qP 284 [1]=some [(1,1)]/\(zV qP 285 [0,1]=some [(0,1),(1,1)]/\zV qP 284 [1,2]=some [(1,1),(2,1)])))/\((zV qP 298 [0,1]=some [(0,1),(1,1)]/\zac qP 25=some 2)/\(zac qP 37=some 16/\(zac qP 44=some 2/\zac qP 33=some 13))))/\(((zac qP 31=some 3/\zac qP 3=some 1)/\(zac qP 9=some 1/\(zac qP 55=some 3/\zac qP 26=some 1)))/\((zac qP 27=some 1/\zac qP 58=some 8)/\(zac qP 63=some 2/\(zac qP 73=some 4/\zac qP 34=some 1)))))/\((((zac qP 75=some 3/\zac qP 41=some 1)/\(zac qP 89=some 16/\(zac qP 22=some 1/\zac qP 35=some 1)))/\((zac qP 87=some 1/\zac qP 86=some 3)/\(zac qP 23=some 1/\(zac qP 91=some 14/\zac qP 42=some 1))))/\(((zac qP 92=some 14/\zac qP 50=some 1)/\(zac qP 67=some 7/\(zac qP 120=some 7/\zac qP 46=some 1)))/\((zac qP 153=some 2/\zac qP 177=some 11)/\(zac qP 48=some 1/\(zac qP 115=some 1/\zac qP 224=some 1))))))/\(((((zac qP 247=some 1/\zac qP 141=some 1)/\(zac qP 281=some 1/\(zac qP 284=some 3/\zac qP 4=some 1)))/\((zac qP 53=some 1/\zac qP 298=some 2)/\(zH qP 37=some (.agg [(.s (bs [])),(.s (bs [])),(.s (bs [])),(.s (bs [])),(.s (bs [])),(.s (bs [])),(.i .i64 0),(.i .i64 0),(.i .i64 0),(.i .i64 0),(.i .i64 0),(.i .i64 0),(.i .i64 0),(.s (bs [])),.nilsl,.nilsl])/\(zH qP 44=some (.agg [.nilsl,.nilsl])/\zH qP 3=some (.i .i64 0)))))/\(((zH qP 55=some (.agg [(.s (bs [])),(.i .i64 0),(.s (bs []))])/\zH qP 58=some (.agg [(.s (bs [])),(.s (bs [])),(.i .i64 0),(.s (bs [])),(.i .i64 0),(.i .i64 0),(.s (bs [])),(.i .i64 0)]))/\(zH qP 63=some (.agg [(.i .i64 0),(.i .i64 0)])/\(zH qP 73=some (.agg [(.s (bs [])),(.i .i64 0),(.i .i64 0),(.b false)])/\zH qP 75=some (.agg [(.s (bs [])),(.i .i64 0),(.i .i64 0)]))))/\((zH qP 9=some (.s (bs []))/\zH qP 89=some (.agg [(.s (bs [])),(.s (bs [])),(.s (bs [])),(.s (bs [])),(.s (bs [])),(.s (bs [])),(.i .i64 0),(.i .i64 0),(.i .i64 0),(.i .i64 0),(.i .i64 0),(.i .i64 0),(.i .i64 0),(.s (bs [])),.nilsl,.nilsl]))/\(zH qP 31=some (.agg [(.i .i64 0),(.i .i64 0),(.i .i64 0)])/\(zH qP 33=some (.agg [(.s (bs [])),(.s (bs [])),(.s (bs [])),(.s (bs [])),(.s (bs [])),(.s (bs [])),(.i .i64 0),(.i .i64 0),(.i .i64 0),(.i .i64 0),(.i .i64 0),(.i .i64 0),(.i .i64 0)])/\zH qP 86=some (.agg [(.s (bs [])),(.i .i64 0),(.i .i64 0)]))))))/\((((zH qP 91=some (.agg [(.s (bs [])),(.s (bs [])),(.s (bs [])),(.s (bs [])),(.s (bs [])),(.s (bs [])),(.i .i64 0),(.i .i64 0),(.i .i64 0),(.i .i64 0),(.i .i64 0),(.i .i64 0),(.i .i64 0),(.i .i64 0)])/\zH qP 92=some (.agg [(.s (bs [])),(.s (bs [])),(.s (bs [])),(.s (bs [])),(.s (bs [])),(.s (bs [])),(.i .i64 0),(.i .i64 0),(.i .i64 0),(.i .i64 0),(.i .i64 0),(.i .i64 0),(.i .i64 0),(.i .i64 0)]))/\(zH qP 50=some (.i .i64 0)/\(zH qP 67=some (.agg [(.i .i64 0),(.i .i64 0),(.i .i64 0),(.i .i64 0),.nilsl,(.i .i64 0),(.i .i64 0)])/\zH qP 120=some (.agg [(.i .i64 0),(.s (bs [])),(.s (bs [])),(.i .i64 0),(.i .i64 0),(.i .i64 0),(.s (bs []))]))))/\((zH qP 4=some (.b false)/\zH qP 46=some .nilsl)/\(zH qP 153=some (.agg [(.i .i64 0),(.i .i64 0)])/\(zH qP 177=some (.agg [(.s (bs [])),(.s (bs [])),(.s (bs [])),(.i .i64 0),(.i .i64 0),(.i .i64 0),(.i .i64 0),(.i .i64 0),(.i .i64 0),(.i .i64 0),(.i .i64 0)])/\zH qP 48=some .nilsl))))/\(((zH qP 87=some .nilsl/\zH qP 115=some .nilsl)/\(zH qP 224=some (.agg [.nilf])/\(zH qP 247=some (.i .u64 0)/\zH qP 279=some (.agg (List.replicate 1441 (.i .i64 0))))))/\((zH qP 281=some .nilsl/\zH qP 284=some (.agg [(.i .i64 0),(.i .i64 0),(.i .i64 0)]))/\(zH qP 285=some (.agg [(.i .i64 0),(.i .i64 0)])/\(zH qP 288=some (.agg (List.replicate 1440 (.b false)))/\zH qP 298=some (.agg [(.s (bs [])),(.s (bs []))])))))))):=by repeat' first|apply And.intro|kernel_rfl
def qU:=aI (aI (aI (aI (aI @underlying37 (aI @underlying33 @underlying48)) (aI (aI @underlying3 @underlying50) (aI @underlying46 @underlying29))) (aI (aI @underlying47 (aI @underlying69 @underlying63)) (aI (aI @underlying73 @underlying34) (aI @underlying75 @underlying9)))) (aI (aI (aI @underlying55 (aI @underlying31 @underlying35)) (aI (aI @underlying26 @underlying44) (aI @underlying41 @underlying25))) (aI (aI (aI @underlying22 @underlying5) (aI @underlying89 @underlying87)) (aI (aI @underlying23 @underlying42) (aI @underlying133 @underlying86))))) (aI (aI (aI (aI @underlying27 (aI @underlying108 @underlying115)) (aI (aI @underlying120 @underlying91) (aI @underlying134 @underlying92))) (aI (aI @underlying149 (aI @underlying153 @underlying67)) (aI (aI @underlying157 @underlying128) (aI @underlying177 @underlying21)))) (aI (aI (aI @underlying196 (aI @underlying205 @underlying213)) (aI (aI @underlying216 @underlying226) (aI @underlying58 @underlying247))) (aI (aI (aI @underlying215 @underlying285) (aI @underlying284 @underlying279)) (aI (aI @underlying288 @underlying224) (aI @underlying297 @underlying281)))))
def cI {n:Int} (h:-9223372036854775808<=n/\n<=9223372036854775807):ze8 (.int .i64 n)=some (.i .i64 n):=if_pos (zjy h.1 h.2)
def cS {l:List UInt8} (h:l.length<=9223372036854775807):ze8 (.string ⟨l.toArray⟩)=some (.s (bs l)):=if_pos h
def cB {x:Bool}:ze8 (.bool x)=some (.b x):=rfl
def cN:ze8 (.pointer none)=some .nilp:=rfl
def cL:ze8 (.slice none 0 0)=some .nilsl:=rfl
def cG:ze8 .nilFunc=some .nilf:=rfl
def cM:ze8 (.map none)=some (.mp []):=rfl
def mG:(Region.Mode.any == Region.Mode.gc)=false:=rfl
def mT:(Region.Mode.any == Region.Mode.text)=false:=rfl
def zwK (P:Program) (fn:Func):Option (AC × List RV × Nat):=match fn.body with
 | some b=>match zP P fn.ntmps b,zaP P fn.results.toList with
  | some c,some rs=>if fn.ntmps<=GB then some (c,rs,fn.ntmps) else none
  | _,_=>none
 | none=>none
def cF {f:Nat} {fn lit:Func} {x:AC × List RV × Nat} (hf:prog.funcs[f]?=some fn) (he:fn=lit) (h:zwK prog lit=some x:=by
  (conv=>lhs;simp only [qT,qU,cI,cS,cB,cN,cL,cG,cM,zwK,zP,zbi,zco,zat,zau,zcc,zwC,zjn,zaP,GB,Region.binds,mG,mT,Int.reduceNeg,Int.reduceLE,Nat.reduceLeDiff,Nat.reduceLT,and_self,reduceIte,xb6,Option.map_none,xbE,Option.bind_none,xaK,xbs,xag,xav,xb8,List.filterMap_nil,xaQ,xaE,List.getElem?_cons_zero,xb9,List.getElem?_toArray,Option.all_some,Option.all_none,decide_true,decide_eq_true_eq,Option.toList_some,Option.toList_none,PV.cells,PV.isAgg,Nat.reduceAdd,Nat.reduceMul,Nat.reducePow,reduceCtorEq,Option.isSome_some,xcu,xaT,List.length_replicate,List.size_toArray,Array.size_empty])
  try exact rfl) (hn : (fn.name == "runtime.NumGoroutine") = false := by kernel_rfl) : zeB prog f = some x := by
 subst he
 unfold zeB
 rw [hf]
 show (if _ then _ else _)=_
 rw [hn,if_neg (by simp)]
 exact h
def pz {f:Nat} {fn lit:Func} {c:AC} {rs:List RV} {n:Nat} {args:List PV} {r:PV} (hf:prog.funcs[f]?=some fn) (he:fn=lit) (hrun:wfs args→∀ X:Fx,X.N=n→Run ⟨prog,X,none,[]⟩ c (argSt args) (retQ rs r)) (h:zwK prog lit=some (c,rs,n):=by
  (conv=>lhs;simp only [qT,qU,cI,cS,cB,cN,cL,cG,cM,zwK,zP,zbi,zco,zat,zau,zcc,zwC,zjn,zaP,GB,Region.binds,mG,mT,Int.reduceNeg,Int.reduceLE,Nat.reduceLeDiff,Nat.reduceLT,and_self,reduceIte,xb6,Option.map_none,xbE,Option.bind_none,xaK,xbs,xag,xav,xb8,List.filterMap_nil,xaQ,xaE,List.getElem?_cons_zero,xb9,List.getElem?_toArray,Option.all_some,Option.all_none,decide_true,decide_eq_true_eq,Option.toList_some,Option.toList_none,PV.cells,PV.isAgg,Nat.reduceAdd,Nat.reduceMul,Nat.reducePow,reduceCtorEq,Option.isSome_some,xcu,xaT,List.length_replicate,List.size_toArray,Array.size_empty])
  try exact rfl) (hg : (fn.name == "runtime.NumGoroutine") = false := by kernel_rfl) (hn : args.length ≤ n := by simp) : Pure prog f args r := zzb (cF hf he h hg) hn hrun
def mixed:prog.follows .mixedOrders=true:=by kernel_rfl
instance:Mx prog:=⟨mixed⟩
section
variable {P:Program} {ts:List (List PV)} {dr:Bool} {K:St->List Ft->Prop} {acc:List Ft} {d:Option Nat} {f:Nat} {args:List AOpd} {gd:Option (Nat × Bool)} {af:List Nat} {r:List RO} {s:St} {vs:List PV} {res:PV}
end
structure Per where
 fro:Int
 to:Int
 days:Int
abbrev Per.pv (p:Per):PV:=.agg [.i .i64 p.fro,.i .i64 p.to,.i .i64 p.days]
def inM (mask wd:Int):Bool:=decide (mask / 2 ^ wd.toNat % 2=1)
def rng (n lo hi:Int):Int:=if n < lo\/hi < n then 3 else 0
def zA1:∀ m < 128,∀ w < 7,(decide (bits .and .i64 (Int.fdiv (Int.ofNat m) (2 ^ (min w 64))) 1=1))=inM (Int.ofNat m) (Int.ofNat w):=by decide +kernel
def zf:List Int->Int
 | []=>0
 | e::r=>if e=0 then zf r else e
def zgL {l:List Int}:∀ {i:Nat},(∀ x ∈ l.take i,x=0)->zf l=zf (l.drop i):=by
 induction l with
 | nil=>intro i _;simp
 | cons e r ih=>
  intro i h;cases i with
  | zero=>rfl
  | succ i=>
   have he:e=0:=h e (by simp)
   subst he;simp only [zf,if_true,xbW];exact ih λx hx=>h x (by simp [hx])
def zN {l:List Int} {i:Nat} {x:Int} (h:∀ x ∈ l.take i,x=0) (hx:l[i]?=some x) (hn:x≠0):zf l=x:=by
 rw [zgL h];obtain ⟨hi,rfl⟩:=xaa.1 hx;rw [xaM hi,zf,if_neg hn]
def zU {l:List Int} (h:∀ x ∈ l.take l.length,x=0):zf l=0:=by
 rw [zgL h,List.drop_length];rfl
def zah {l:List Int} {i:Nat} {x:Int} (h:∀ x ∈ l.take i,x=0) (hx:l[i]?=some x) (h0:x=0):∀ x ∈ l.take (i+1),x=0:=by
 intro y hy;rw [xaP,hx] at hy
 rcases xaL.1 hy with hy|hy
 ·exact h y hy
 ·simp at hy;omega
def zC (p:Per):Int:=zf [rng p.fro 0 99999,rng p.to 0 99999,if p.to < p.fro then 11 else 0,if 400 < p.to - p.fro then 4 else 0,rng p.days 1 127]
def zbd {n a b:Int}:rng n a b=0↔a<=n/\n<=b:=by
 unfold rng
 split
 ·rename_i h;omega
 ·rename_i h;omega
def gC {G:Cfg} {x y:AC} {s:St} {Q:zZ} {o:AOpd} {t:Bool} {p q:Prop} (h1:p->Run G x s Q) (h2:q->Run G y s Q) (ht:o.ev s=.p (.b t):=by simp (disch:=omega) only [qS,qe,seval]<;>rfl) (hp:(t=true)=p:=by first|(simp only [qH,zbd]<;>rfl)|rfl) (hq:(t=false)=q:=by first|(simp only [qH,zbd]<;>rfl)|rfl):Run G (.cond o x y) s Q:=by
 subst hp;subst hq;exact zua ht h1 h2
def gG {p q:Prop} (h:q) (k:q->p:=by intro h;first|exact gS h|exact gY h|exact gZ h|exact Z _ _ h|fail):p:=k h
def gD0 {p:Prop} (h:p:=by repeat' first|refine gC ?_ ?_<;>intro hc<;>try contradiction|refine gG ?_|show AK _;intro J Z|refine gJ ?_|omega|exact trivial|exact .refl _|fail):p:=h
def gD2 {p:Prop} (h:p:=by repeat' first|refine gC ?_ ?_<;>intro hc<;>try contradiction|refine za (jA ..) ?_|refine za (jB ..) ?_|refine zm (λ_=>jA ..) ?_|refine zm (λ_=>jB ..) ?_|refine zL (jA ..) ?_|refine zL (jB ..) ?_|refine zn (jA ..) ?_|refine zn (jB ..) ?_|refine gG ?_|show AK _;intro J Z|refine gJ ?_|omega|exact trivial|exact .refl _|fail):p:=h
def gD4 {p:Prop} (h:p:=by repeat' first|refine gC ?_ ?_<;>intro hc<;>try contradiction|refine za (jA ..) ?_|refine za (jB ..) ?_|refine za (jC ..) ?_|refine za (jD ..) ?_|refine zm (λ_=>jA ..) ?_|refine zm (λ_=>jB ..) ?_|refine zm (λ_=>jC ..) ?_|refine zm (λ_=>jD ..) ?_|refine zL (jA ..) ?_|refine zL (jB ..) ?_|refine zL (jC ..) ?_|refine zL (jD ..) ?_|refine zn (jA ..) ?_|refine zn (jB ..) ?_|refine zn (jC ..) ?_|refine zn (jD ..) ?_|refine gG ?_|show AK _;intro J Z|refine gJ ?_|omega|exact trivial|exact .refl _|fail):p:=h
def gD8 {p:Prop} (h:p:=by repeat' first|refine gC ?_ ?_<;>intro hc<;>try contradiction|refine za (jA ..) ?_|refine za (jB ..) ?_|refine za (jC ..) ?_|refine za (jD ..) ?_|refine za (jE ..) ?_|refine za (jF ..) ?_|refine za (jG ..) ?_|refine za (jH ..) ?_|refine zm (λ_=>jA ..) ?_|refine zm (λ_=>jB ..) ?_|refine zm (λ_=>jC ..) ?_|refine zm (λ_=>jD ..) ?_|refine zm (λ_=>jE ..) ?_|refine zm (λ_=>jF ..) ?_|refine zm (λ_=>jG ..) ?_|refine zm (λ_=>jH ..) ?_|refine zL (jA ..) ?_|refine zL (jB ..) ?_|refine zL (jC ..) ?_|refine zL (jD ..) ?_|refine zL (jE ..) ?_|refine zL (jF ..) ?_|refine zL (jG ..) ?_|refine zL (jH ..) ?_|refine zn (jA ..) ?_|refine zn (jB ..) ?_|refine zn (jC ..) ?_|refine zn (jD ..) ?_|refine zn (jE ..) ?_|refine zn (jF ..) ?_|refine zn (jG ..) ?_|refine zn (jH ..) ?_|refine gG ?_|show AK _;intro J Z|refine gJ ?_|omega|exact trivial|exact .refl _|fail):p:=h
def ze {e:Int} {r:List Int}:zf (e::r)=0↔e=0/\zf r=0:=by
 simp only [zf];split<;>simp_all
def zo5:zf []=0:=rfl
def zo6 {a b:List Int} (h:zf a=0):zf (a++b)=zf b:=by
 induction a with
 | nil=>rfl
 | cons e r ih=>obtain ⟨h1,h2⟩:=ze.1 h;subst h1;simp only [xaE,zf,if_true];exact ih h2
def zl2 {a b:List Int} (h:zf a≠0):zf (a++b)=zf a:=by
 induction a with
 | nil=>exact absurd rfl h
 | cons e r ih=>
  simp only [xaE,zf] at h ⊢
  split
  ·rename_i h0;rw [if_pos h0] at h;exact ih h
  ·rfl
def ze2 {p:Prop} [Decidable p] {e:Int} (he:e≠0):(if p then e else 0)=0↔¬p:=by by_cases h:p<;>simp [h,he]
def zY {p:Per} (h:zC p=0):0<=p.fro/\p.fro<=p.to/\p.to<=99999/\p.to - p.fro<=400/\1<=p.days/\p.days<=127:=by
 unfold zC at h;simp only [ze,zbd,ze2 (show (11:Int)≠0 by decide),ze2 (show (4:Int)≠0 by decide)] at h
 omega
def zz2 (p:Per) (d:Int):Bool:=decide (p.fro<=d) && decide (d<=p.to) && inM p.days ((d+5) % 7)
def zq (p:Per):List Int:=(List.range (p.to - p.fro+1).toNat).flatMap λ(k:Nat)=>if inM p.days ((p.fro+k+5) % 7) then [p.fro+k] else []
def zd0 {α:Type} (f:Nat->List α) {k n:Nat} (h:k < n):(List.range n).flatMap f=(List.range k).flatMap f++(f k++(List.range' (k+1) (n - (k+1))).flatMap f):=by
 have:List.range n=List.range k++(k::List.range' (k+1) (n - (k+1))):=by
  rw [List.range_eq_range',List.range_eq_range',show k::List.range' (k+1) (n - (k+1))=List.range' (0+1*k) (n - k) by rw [show n - k=(n - (k+1))+1 by omega,List.range'_succ];simp,List.range'_append,show k+(n - k)=n by omega]
 rw [this];simp
def z8 {α:Type} (f:Nat->List α) (k:Nat):(List.range (k+1)).flatMap f=(List.range k).flatMap f++f k:=by
 rw [xbt];simp
def zrf (b:Bool) (e:Int):Pure prog 77 [.b b,.i .i64 e] (.i .i64 (if b then e else 0)):=by
 refine pz func77 f77.eq_1 λhw X hX=>?_
 repeat' first|refine gC ?_ ?_<;>intro hc<;>try contradiction|refine gG ?_|show AK _;intro J Z|refine gJ ?_|omega|exact aT
 all_goals (subst hc;exact .refl _)
def zre (n a b:Int):Pure prog 78 [.i .i64 n,.i .i64 a,.i .i64 b] (.i .i64 (rng n a b)):=by
 refine pz func78 f78.eq_1 λhw X hX=>?_
 repeat' first|refine gC ?_ ?_<;>intro hc<;>try contradiction|refine za (zrf _ _) ?_|refine gG ?_|show AK _;intro J Z|refine gJ ?_|omega|exact aT
 simp only [rng,xaY,decide_eq_true_eq];exact .refl _
def zrg (n:Int):Pure prog 72 [.i .i64 n] (.i .i64 (rng n 0 99999)):=by
 refine pz func72 f72.eq_1 λhw X hX=>?_
 have jA:=λu1 u2 u3=>zre u1 u2 u3;exact gD2
def ziy (m w:Int) (h0:0<=m) (h1:m < 128) (h2:0<=w) (h3:w < 7):Pure prog 128 [.i .i64 m,.i .i64 w] (.b (inM m w)):=by
 refine pz func128 f128.eq_1 λhw X hX=>?_
 repeat' first|refine gC ?_ ?_<;>intro hc<;>try contradiction|refine gG ?_|show AK _;intro J Z|refine gJ ?_|omega|exact aT
 have:=zA1 m.toNat (by omega) w.toNat (by omega)
 simp only [Int.ofNat_eq_natCast,xbx h0,xbx h2] at this;show Weak (.b (decide (bits .and .i64 (m.fdiv (2 ^ min w.toNat 64)) 1=1))) _;rw [this];exact .refl _
def zlv (d:Int) (h0:0<=d) (h1:d<=99999):Pure prog 129 [.i .i64 d] (.i .i64 ((d+5) % 7)):=by
 refine pz func129 f129.eq_1 λhw X hX=>?_
 repeat' first|refine gC ?_ ?_<;>intro hc<;>try contradiction|refine gG ?_|show AK _;intro J Z|refine gJ ?_|omega|exact aT
 rw [xbF (by omega)]
 exact .refl _
def zlw (l:List Int):Pure prog 71 [.sl 1 (l.map (.i .i64))] (.i .i64 (zf l)):=by
 refine pz func71 f71.eq_1 λhw X hX=>?_
 simp only [wfs,PV.wf,xaf,maxLen] at hw
 repeat' first|refine gC ?_ ?_<;>intro hc<;>try contradiction|refine gG ?_|show AK _;intro J Z|refine gJ ?_|omega|exact aT
 refine zh (κ:=Nat) (λi=>⟨[(5,.p (.sl 1 (l.map (.i .i64)))),(6,.p (.i .i64 l.length)),(7,.p (.i .i64 i))],[],[],false⟩) (λi=>i<=l.length/\∀ x ∈ l.take i,x=0) (λi=>l.length - i) 0 ?_ ?_ ?_
 ·exact sR
 ·simp
 ·intro i hi
  repeat first|refine gG ?_|show AK _;intro J Z|refine gJ ?_|omega|exact aT
  (refine gC ?_ ?_<;>intro hc<;>try contradiction)
  ·obtain ⟨x,hx⟩:=zk (i:=i) (l:=l) (by omega)
   have qe:=@hx;repeat' first|refine gC ?_ ?_<;>intro hc<;>try contradiction|refine gG ?_|show AK _;intro J Z|refine gJ ?_|omega|exact aT
   ·rw [zN hi.2 hx hc];exact .refl _
   ·exact ⟨i+1,⟨by omega,zah hi.2 hx hc⟩,by omega,by simp⟩
  ·repeat' first|refine gC ?_ ?_<;>intro hc<;>try contradiction|refine gG ?_|show AK _;intro J Z|refine gJ ?_|omega|exact aT
   have e:i=l.length:=by omega
   subst e;rw [zU hi.2];exact .refl _
def zcB (p:Per):Pure prog 37 [p.pv] (.i .i64 (zC p)):=by
 refine pz func37 f37.eq_1 λhw X hX=>?_
 have qe:=@qR;repeat' first|refine gC ?_ ?_<;>intro hc<;>try contradiction|refine za (zrg _) ?_|refine za (zlw [_,_]) ?_|refine gG ?_|show AK _;intro J Z|refine gJ ?_|omega|exact aT
 ·have:zC p=zf ([rng p.fro 0 99999,rng p.to 0 99999]++[if p.to < p.fro then 11 else 0,if 400 < p.to - p.fro then 4 else 0,rng p.days 1 127]):=rfl
  rw [this,zl2 hc];exact .refl _
 ·have h1:=hc;simp only [ze,zbd] at h1;have qe:=@qR;repeat' first|refine gC ?_ ?_<;>intro hc<;>try contradiction|refine za (zrf _ _) ?_|refine za (zre _ _ _) ?_|refine za (zlw [_,_,_]) ?_|refine gG ?_|show AK _;intro J Z|refine gJ ?_|omega|exact aT
  have:zC p=zf ([rng p.fro 0 99999,rng p.to 0 99999]++[if p.to < p.fro then 11 else 0,if 400 < p.to - p.fro then 4 else 0,rng p.days 1 127]):=rfl
  rw [this,zo6 hc];exact .refl _
def zzf (p:Per) (d:Int) (h0:0<=d) (h1:d<=99999) (h2:0<=p.days) (h3:p.days < 128):Pure prog 73 [p.pv,.i .i64 d] (.b (zz2 p d)):=by
 refine pz func73 f73.eq_1 λhw X hX=>?_
 have qe:=@qR;repeat' first|refine gC ?_ ?_<;>intro hc<;>try contradiction|refine zm (λ_=>zlv _ h0 h1) ?_|(show zj _ _ _ _ (⟨_,.call 128,_,_,_⟩::_) _ _;refine zcx (hf:=λhc=>(by first|exact ziy p.days ((d+5) % 7) h2 h3 (by omega) (by omega)|(simp only [qH,zbd] at hc;exact ziy p.days ((d+5) % 7) h2 h3 (by omega) (by omega)))) (hn:=?_))|refine gG ?_|show AK _;intro J Z|refine gJ ?_|omega|exact aT
 all_goals exact .refl _
def zf2 {α β:Type} {l:List α} {k:Nat} {d:α} (f:α->β) (h:l[k]?=some d):(l.take (k+1)).map f=(l.take k).map f++[f d]:=by
 rw [xaP,h];simp
def zfv {α:Type} {l:List α} {k:Nat} {d:α} (h:l[k]?=some d):(l.take k).length=k:=by
 have:=(xaa.1 h).1;simp;omega
def zbx (p:Per):(zq p).length<=(p.to - p.fro+1).toNat:=by
 unfold zq;generalize (p.to - p.fro+1).toNat=n
 induction n with
 | zero=>simp
 | succ n ih=>rw [z8,xad];split<;>simp only [xaK,xbs]<;>omega
end Go.Proofs.YtocamnijnhnlfaaGreat
