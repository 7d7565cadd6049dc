/- Contracts of functions, for the claim. No conditions. -/
import Derived.Test.YtijgimeokgbifaaGreatK12
import Derived.Test.YtijgimeokgbifaaGreatK9
set_option linter.all false
set_option maxHeartbeats 8000000
set_option maxRecDepth 100000
namespace Go.Proofs.YtijgimeokgbifaaGreat
open Go.RowKit Tryz Go.Lib
def zrP (n : Nat) (w : World) (h0 : 0 < n) (hb : n * 32 <= 140737488355328) :
    Calls prog 221 #[.slice none 0 0, .int .i64 n] w λe w' => ∃ cap cs, e = .returned (.slice (some ⟨w.heap.size, 0, none⟩) 0 cap) /\ w' = w.drew.alloc (.cells cs 91) /\ cs.size = cap * 3 /\ n <= cap /\ cap <= maxLen := by
  have h1 : ¬ ((n : Int) < 0) := by omega
  have h3 : IntKind.i64.wrap (n : Int) = n := by simp only [IntKind.wrap, IntKind.bits, IntKind.signed]; simp; omega
  have h4 : (n : Int) > 0 := by omega
  obtain ⟨i0, z, hi0, hz0, hs0, hby, hzs⟩ : ∃ i z, prog.info? 91 = some i /\ i.zero = some z /\ i.size = 3 /\ i.bytes = 32 /\ z.cells.size = 3 := ⟨_, _, rfl, rfl, rfl, rfl, rfl⟩;have hrz : ∀ ty, (Builtin.append_ #[82, 3] ty #[.slice none 0 0, .int .i64 (n : Int)]).run prog w =
      .ok (.slice (some ⟨w.heap.size, 0, none⟩) n (grownCap w n 0 91)) (w.drew.alloc (.cells ((#[] : Array Value) ++ Builtin.zeroCells z.cells n ++ Builtin.zeroCells z.cells (grownCap w n 0 91 - n)) 91)) := λty => by
    have h := Lib.run_append_grow_zeros w 82 3 ty 91 i0 z .i64 .i64 underlying82 underlying3 hi0 hz0 none 0 0 [] (run_firstCells_none w.drew i0.size 0 0 0) n (by omega) (by omega) (by omega) (by omega) (by rw [hby]; omega)
      (by rw [Nat.zero_add]; exact growslice_fits (by omega) (by rw [hby]; omega))
    rw [Nat.zero_add] at h;exact h
  have hGn : n <= grownCap w n 0 91 := grownCap_ge w _ _ _;have hG63 := grownCap_le_maxLen w n 0 91 (by unfold maxLen; omega)
  obtain ⟨G, hG⟩ : ∃ G, G = grownCap w n 0 91 := ⟨_, rfl⟩;rw [<- hG] at hrz hGn hG63;obtain ⟨cs, hcs⟩ : ∃ cs, cs = ((#[] : Array Value) ++ Builtin.zeroCells z.cells n ++ Builtin.zeroCells z.cells (G - n)) := ⟨_, rfl⟩;have hcsz : cs.size = G * 3 := by
    have hz : ∀ k, (Builtin.zeroCells z.cells k).size = k * 3 := λk => by
      rw [size_zeroCells, hzs]
    rw [hcs, Array.size_append, Array.size_append, hz, hz];show 0 + n * 3 + (G - n) * 3 = _
    omega
  rw [<- hcs] at hrz;have hG' : G <= 9223372036854775807 := by unfold maxLen at hG63; omega
  clear hG hcs
  go_enter func221, ntmps221
  go_wp2_with (at_builtin; refine Lib.wpList_append_run _ rfl _ _ _ _ rfl _ _ rfl rfl _ _ (hrz _) ?_)
  all_goals (go_ret; exact ⟨_, rfl, _, rfl, hcsz, hGn, hG63⟩)
abbrev zsl:PV:=.agg [.s (bs []),.s (bs []),.s (bs []),.s (bs []),.s (bs []),.s (bs []),.i .i64 0,.i .i64 0,.i .i64 0,.i .i64 0,.i .i64 0,.i .i64 0,.i .i64 0,.s (bs []),.nilsl,.nilsl]
theorem zcl (g:Nat) {e:TypeId} {fr:Nat × Nat}:∀ (vs:List Value) (o:Nat) (w:World) (cur:Array Value),w.heap[g]?=some (.cells cur e fr)->o+vs.length<=cur.size ->
  ∃ cur',(w.setCells g o vs).heap[g]?=some (.cells cur' e fr)/\cur'.size=cur.size/\cur'.toList=cur.toList.take o++vs++cur.toList.drop (o+vs.length)/\w.grownBy (w.setCells g o vs) (some g)
 | [],o,w,cur,h,hl=>⟨cur,h,rfl,by simp,⟨rfl,rfl,rfl,xaj _,λ_ _ _=>rfl⟩⟩
 | v::r,o,w,cur,h,hl=>by
  have h1:(w.setCell ⟨g,o,none⟩ v).heap[g]?=some (.cells (cur.setIfInBounds o v) e fr):=by
   simp [World.setCell,xck,h]
  simp only [xaE] at hl;obtain ⟨cur',k1,k2,k3,k4⟩:=zcl g r (o+1) (w.setCell ⟨g,o,none⟩ v) (cur.setIfInBounds o v) h1 (by simp;omega)
  have hs3:(w.setCell ⟨g,o,none⟩ v).heap.size=w.heap.size:=by simp [World.setCell]
  refine ⟨cur',k1,by simpa using k2,?_,⟨k4.os,k4.tape,k4.output,(by rw [<-hs3];exact k4.size),λk hk hne=>?_⟩⟩
  ·rw [k3];simp only [Array.toList_setIfInBounds,xaE];have hlt:o < cur.toList.length:=by simp;omega
   rw [xaK,xbD hlt,List.take_set_of_le (xaj _),List.drop_set_of_lt (by omega)]
   simp [Nat.add_comm,Nat.add_left_comm,xbG]
  ·have:=k4.block k (by simpa [World.setCell] using hk) hne
   rw [show (w.setCells g o (v::r))=(w.setCell ⟨g,o,none⟩ v).setCells g (o+1) r from rfl,this]
   have hkg:k≠g:=λe=>hne (by rw [e])
   simp [World.setCell,xck,Ne.symm hkg]
def zmt {P:Program} (w:World) (t e ty:TypeId) (z:Value) (sz:Nat) (ht:P.underlying t=some (.slice e)) (hv:∀ w,(zeroValue e).run P w=.ok z w) (hz:z.cells.size=sz) (h1:∀ u ∈ z.cells.toList,u.oneCell'=true) (b o c:Nat) (h0:0 < sz)
  (hc:∀ j,j < sz->(w.cell? ⟨b,o+j,none⟩).isSome=true) (hf:∀ j,j < sz->w.frozen? ⟨b,o+j,none⟩=false) :
  (Builtin.clear_ #[t] ty #[.slice (some ⟨b,o,none⟩) 1 c]).run P w=.ok (.tuple #[]) (w.setCells b o z.cells.toList):=by
 have hzc:(Builtin.zeroCells z.cells 1).toList=z.cells.toList:=by
  simp [Builtin.zeroCells]
  apply List.ext_getElem
  ·simp
  ·intro i h1 h2;simp at h2;simp only [List.getElem_map,xcz,Nat.mod_eq_of_lt h2];exact getElem!_pos z.cells i h2
 have hst:=run_storeCells_cells (P:=P) b o z.cells.toList 0 w (by simpa [hz] using hc) (by simpa [hz] using hf) (by simpa using h1)
 simp only [xbK] at hst;simp [Builtin.clear_,run_underlying ht,hv,hzc,hst]
def zmk (g cap n i:Nat) (cur:Array Value) (w:World) (hw:w.heap[g]?=some (.cells cur 84 (0,0))) (hsz:cur.size=cap*16) (hn:n<=cap) (hcm:cap<=maxLen) (hi:i < n) (h1:∀ u ∈ cur.toList.take (n*16),u.oneCell'=true) :
  Calls prog 133 #[.slice (some ⟨g,0,none⟩) n cap,.int .i64 i,.int .i64 ((i:Int)+1)] w λe w'=>e=.returned (.slice (some ⟨g,0,none⟩) (n - 1) cap)/\w.grownBy w' (some g) /\
   ∃ cur' zc,w'.heap[g]?=some (.cells cur' 84 (0,0))/\cur'.size=cap*16/\zfK zc=some zsl.cells/\cur'.toList.take (n*16)=cur.toList.take (i*16)++(cur.toList.take (n*16)).drop ((i+1)*16)++zc:=by
 obtain ⟨i0,z,hi0,hz0,hs0,hby,hzs,hz1,hzv⟩:∃ i z,prog.info? 84=some i/\i.zero=some z/\i.size=16/\i.bytes=216/\z.cells.size=16/\(∀ u ∈ z.cells.toList,u.oneCell'=true)/\zfK z.cells.toList=some zsl.cells:=⟨_,_,rfl,rfl,rfl,rfl,rfl,by decide,rfl⟩
 obtain ⟨news,hnews⟩:∃ news,news=(cur.toList.take (n*16)).drop ((i+1)*16):=⟨_,rfl⟩;have hlen:news.length=(n - (i+1))*16:=by rw [hnews];simp [hsz];omega
 have hget:∀ t u,news[t]?=some u->cur[(i+1)*16+t]?=some u:=λt u h=>by
  rw [hnews,xaS,xaI] at h
  split at h
  ·simpa using h
  ·cases h
 obtain ⟨A,hA,hsrc⟩:∃ A:Addr,(if cap=i+1 then (some ⟨g,0,none⟩:Option Addr) else some ⟨g,(i+1)*16,none⟩)=some A/\Hid (∀ t u,news[t]?=some u->w.drew.cell? (A.add t)=some u):=by
  by_cases h:cap=i+1
  ·refine ⟨⟨g,0,none⟩,by simp [h],λt u hu=>?_⟩
   have h0:news.length=0:=by rw [hlen];omega
   rw [List.length_eq_zero_iff.1 h0] at hu;simp at hu
  ·refine ⟨⟨g,(i+1)*16,none⟩,by simp [h],λt u hu=>?_⟩
   rw [Go.Addr.add_lit];show w.cell? _=_;simp only [World.cell?,hw];simpa using hget t u hu
 have s1:Hid (news.length=(n - (i+1))*16):=hlen;have s2:Hid (∀ u ∈ news,u.oneCell'=true):=λu hu=>h1 u (by rw [hnews] at hu;exact xbA hu)
 have hcell:∀ (W:World) (c:Array Value) (j:Nat),W.heap[g]?=some (.cells c 84 (0,0))->j < c.size->(W.cell? ⟨g,j,none⟩).isSome=true/\W.frozen? ⟨g,j,none⟩=false:=λW c j hW hj=>by
  constructor
  ·simp [World.cell?,hW,hj]
  ·simp [World.frozen?,hW]
 have s3:Hid (∀ t,t < news.length->(w.drew.cell? ⟨g,0+i*16+t,none⟩).isSome=true/\w.drew.frozen? ⟨g,0+i*16+t,none⟩=false):=by
  intro t ht;rw [hlen] at ht;exact hcell w.drew cur _ hw (by omega)
 obtain ⟨cur1,e1,e2,e3,e4⟩:=zcl g news (0+i*16) w.drew cur hw (by rw [hlen,hsz];omega)
 obtain ⟨W1,hW1⟩:∃ W1,W1=w.drew.setCells g (0+i*16) news:=⟨_,rfl⟩;rw [<-hW1] at e1 e4;have hm:i+(n - (i+1))=n - 1:=by omega
 obtain ⟨zc,hzc⟩:∃ zc,zc=z.cells.toList:=⟨_,rfl⟩;have hzl:zc.length=16:=by rw [hzc];simpa using hzs
 have hcl:∀ ty,(Builtin.clear_ #[34] ty #[.slice (some ⟨g,(n - 1)*16,none⟩) (n - (n - 1)) (cap - (n - 1))]).run prog W1=.ok (.tuple #[]) (W1.setCells g ((n - 1)*16) zc):=λty=>by
  rw [hzc];rw [show n - (n - 1)=1 by omega]
  exact zmt W1 34 84 ty z 16 underlying34 (λw=>by simp [zeroValue,typeInfo,hi0,hz0]) hzs hz1 g _ _ (by omega) (λj hj=>(hcell W1 cur1 _ e1 (by rw [e2];omega)).1) (λj hj=>(hcell W1 cur1 _ e1 (by rw [e2];omega)).2)
 have hW:Hid (W1=w.drew.setCells g (0+i*16) news):=hW1;clear hW1 hget
 go_enter func133,ntmps133
 have hic:i<=cap:=by omega
 have hjc:i+1<=cap:=by omega
 have hb1:(0:Int)<=(i:Int)+1:=by omega
 have hb2:(i:Int)+1<=(n:Int):=by omega
 go_wp2_with fail
 go_region_law (refine step_append_room rfl (.tmp 22) (.tmp 25) 34 rfl 84 i0 16 underlying34 hi0 hs0 g 0 i cap (by simp [Act.eval,Act.put]) A (n - (i+1)) (cap - (i+1)) news (by simp [Act.eval,Act.put]) s1.out hsrc.out s2.out (by omega) s3.out ?_;rw [<-hW.out])
 obtain ⟨cur2,f1,f2,f3,f4⟩:=zcl g zc ((n - 1)*16) W1 cur1 e1 (by rw [e2,hsz,hzl];omega)
 rw [<-hzc] at hzv;clear hzc;have hg12:w.grownBy (W1.setCells g ((n - 1)*16) zc) (some g):=⟨f4.os.trans e4.os,f4.tape.trans e4.tape,f4.output.trans e4.output,xa8 e4.size f4.size,λk hk hne=>(f4.block k (xaG hk e4.size) hne).trans (e4.block k hk hne)⟩
 go_wp2
 go_ret
 refine ⟨rfl,hg12,cur2,zc,f1,by rw [f2,e2,hsz],hzv,?_⟩
 have l1:(cur.toList.take (0+i*16)++news).length=(n - 1)*16:=by
  rw [xae,xai,hlen];simp [hsz];omega
 have l2:cur1.toList.take ((n - 1)*16)=cur.toList.take (0+i*16)++news:=by
  rw [e3,xau,<-xau,xbe (by rw [l1];exact xaj _),xag (by rw [l1];exact xaj _)]
 have l3:(cur.toList.take (0+i*16)++news++zc).length=n*16:=by rw [xae,l1,hzl];omega
 rw [f3,l2,xbe (by rw [l3];exact xaj _),xag (by rw [l3];exact xaj _),hnews,xbc]
def zjm {w:World} {B:Nat->Prop} {us:List Value} {ps:List PV} (h:Reps w B us ps) (k:Nat):Reps w B (us.take k) (ps.take k):=
 ⟨by simp [h.1],λj v p hv hp=>by
  rw [xaI] at hv hp
  split at hv
  ·rename_i e;rw [if_pos e] at hp;exact h.2 j v p hv hp
  ·cases hv⟩
def zjn {w:World} {B:Nat->Prop} {us:List Value} {ps:List PV} (h:Reps w B us ps) (k:Nat):Reps w B (us.drop k) (ps.drop k):=
 ⟨by simp [h.1],λj v p hv hp=>by rw [xaS] at hv hp;exact h.2 _ v p hv hp⟩
theorem zcO {sz:Nat}:∀ {xs:List PV},(∀ x ∈ xs,x.cells.length=sz)->(xs.flatMap PV.cells).length=xs.length*sz
 | [],_=>by simp
 | x::r,h=>by
  rw [xaz,xae,zcO (λy hy=>h y (by simp [hy])),h x (by simp),xaE,xb0];omega
def zjo {sz:Nat} {xs:List PV} (h:∀ x ∈ xs,x.cells.length=sz) (k:Nat) (hk:k<=xs.length):(xs.take k).flatMap PV.cells=(xs.flatMap PV.cells).take (k*sz):=by
 have e:xs.flatMap PV.cells=(xs.take k).flatMap PV.cells++(xs.drop k).flatMap PV.cells:=by rw [<-xa0,xaw]
 have hl:((xs.take k).flatMap PV.cells).length=k*sz:=by
  rw [zcO (λx hx=>h x (xbf hx)),xai];congr 1;omega
 rw [e,<-hl,List.take_left]
def zjp {sz:Nat} {xs:List PV} (h:∀ x ∈ xs,x.cells.length=sz) (k:Nat) (hk:k<=xs.length):(xs.drop k).flatMap PV.cells=(xs.flatMap PV.cells).drop (k*sz):=by
 have e:xs.flatMap PV.cells=(xs.take k).flatMap PV.cells++(xs.drop k).flatMap PV.cells:=by rw [<-xa0,xaw]
 have hl:((xs.take k).flatMap PV.cells).length=k*sz:=by
  rw [zcO (λx hx=>h x (xbf hx)),xai];congr 1;omega
 rw [e,<-hl,List.drop_left]
def zlc (xs:List PV) (i:Nat) (a0:Option Addr) (c0:Nat) (hi:i < xs.length) (h1:oneAll xs=true):Acts prog 133 [.p (.rs a0 xs.length c0),.p (.i .i64 i),.p (.i .i64 ((i:Int)+1))] [(900,.hrow 84 16 xs a0 c0)] (.p (.rs a0 (xs.length - 1) c0)) [(900,.hrow 84 16 (xs.take i++xs.drop (i+1)++[zsl]) a0 c0)]:=by
 have hlen:(xs.take i++xs.drop (i+1)++[zsl]).length=xs.length:=by simp;omega
 refine ⟨⟨_,_,func133,rfl,rfl⟩,λj o hj=>?_,λj o hj=>?_,λw C vs fr hlv hvs=>?_⟩
 ·obtain ⟨rfl,rfl⟩:=zr hj;exact ⟨trivial,rfl⟩
 ·obtain ⟨rfl,rfl⟩:=zr hj;exact ⟨_,zK _ _,rfl,rfl⟩
 ·obtain ⟨⟨us,how,hus,hx,h0,_⟩,hc⟩:(∃ us,w.ownsRow 0 84 16 (C.cur 900) xs.length us/\Reps w C.B us (xs.flatMap PV.cells)/\(∀ x ∈ xs,x.cells.length=16)/\0 < 16/\True)/\C.cur 900=.slice a0 xs.length c0:=by
   obtain ⟨⟨us,k1,k2,k3,k4⟩,k5⟩:=fr.ob 900 _ (zK _ _);exact ⟨⟨us,k1,k2,k3,k4,trivial⟩,k5⟩
  rcases how.2 with ⟨f1,f2⟩|⟨g,cap,cur,f1,f2,f3,f4,f5,f6,f7⟩
  ·omega
  rw [f1] at hc;injection hc with q1 q2 q3;subst q1;subst q3;have hv:vs=[.slice (some ⟨g,0,none⟩) xs.length cap,.int .i64 i,.int .i64 ((i:Int)+1)]:=by
   match vs,hlv,hvs with
   | [v1,v2,v3],_,hvs=>
    have e1:=ze (hvs 0 v1 _ rfl rfl);have e2:=ze (hvs 1 v2 _ rfl rfl);have e3:=ze (hvs 2 v3 _ rfl rfl);cases e1;cases e2;cases e3;rfl
  have hone:=zbO hus h1;subst hv;refine Calls.mono (zmk g cap xs.length i cur w f3 f6 f4 f5 hi (by rw [f7];exact hone)) ?_
  rintro ex w' ⟨rfl,hg,cur',zc,e1,e2,hzv,e3⟩;rw [f7] at e3;have hgb:blk C 900 (.hrow 84 16 xs (some ⟨g,0,none⟩) cap)=some g:=by simp [blk,f1,Value.ownBlock]
  have hgB:¬C.B g:=(fr.sep 900 _ g (zK _ _) hgb).2;have hkeep:∀ b,C.B b->w'.heap[b]?=w.heap[b]?:=λb hb=>hg.block b (fr.blt b hb) λe=>by injection e with e;subst e;exact hgB hb
  have hxs:∀ x ∈ xs.take i++xs.drop (i+1)++[zsl],x.cells.length=16:=λx hx'=>by
   rcases xaD.1 hx' with hx'|hx'
   ·rcases xaD.1 hx' with hx'|hx'
    ·exact hx x (xbf hx')
    ·exact hx x (xbA hx')
   ·simp at hx';subst hx';rfl
  have htk:cur.toList.take (i*16)=us.take (i*16):=by
   rw [<-f7,List.take_take,xbw (by omega)]
  have hr:Reps w' C.B (cur'.toList.take (xs.length*16)) ((xs.take i++xs.drop (i+1)++[zsl]).flatMap PV.cells):=by
   rw [e3,htk,xa0,xa0,zjo hx i (by omega),zjp hx (i+1) (by omega)]
   refine ((zjm hus _).append (zjn hus _)).append ?_ |>.mono (λ_ h => h) λb hb => hkeep b hb
   simp only [xaz,xbq,xat,PV.cells];exact zfm hzv w C.B
  refine ⟨_,C,rfl,{
   kx:=⟨hg.os,hg.tape,hg.output,hg.size,λb hb hm=>hg.block b hb λe=>by injection e with e;subst e;exact hm ⟨900,_,zK _ _,hgb⟩⟩
   fr:={
    blt:=λb hb=>xaG (fr.blt b hb) hg.size
    ob:=λj o hj=>by
     obtain ⟨rfl,rfl⟩:=zr hj;exact ⟨⟨_,⟨by rw [hr.1,zcO hxs],.inr ⟨g,cap,cur',by rw [f1,hlen],xa5 _,e1,by rw [hlen];exact f4,f5,e2,by rw [hlen]⟩⟩,hr,hxs,by omega⟩,by rw [f1,hlen]⟩
    objs:=λj o hj=>by obtain ⟨rfl,rfl⟩:=zr hj;trivial
    fz:=λj o hj=>by obtain ⟨rfl,rfl⟩:=zr hj;rfl
    sep:=λj o b hj hb=>by
     obtain ⟨rfl,rfl⟩:=zr hj;have:=fr.sep 900 _ b (zK _ _) hb;exact ⟨xaG this.1 hg.size,this.2⟩
    dis:=λj j' o o' b hne hj hj' _ _=>by obtain ⟨rfl,_⟩:=zr hj;obtain ⟨rfl,_⟩:=zr hj';exact absurd rfl hne }
   b1:=λ_ h=>h
   b2:=λ_ h=>.inl h
   y:=rfl
   fol:=λj o hj=>by obtain ⟨rfl,rfl⟩:=zr hj;exact ⟨_,zK _ _,rfl,rfl⟩
   tied:=λj o o' _ hj' hnh _=>by obtain ⟨rfl,rfl⟩:=zr hj';exact absurd rfl (hnh _ _ _ _ _)
   bk:=λj o b hj hb=>by obtain ⟨rfl,rfl⟩:=zr hj;exact .inl ⟨900,_,zK _ _,hb⟩
   rp:=.p (.rs _ _ _)
   scr:=.p _ }⟩
def zsy (n:Nat) (h0:0 < n) (hb:n*32<=140737488355328):Acts prog 221 [.p .nilsl,.p (.i .i64 n)] [] (.row 900 0) [(900,.row 91 3 [] false)]:=by
 refine ⟨⟨_,_,func221,rfl,rfl⟩,λj o hj=>by simp [zj] at hj,λj o hj=>by simp [zj] at hj,λw C vs fr hlv hvs=>?_⟩
 have hv:vs=[.slice none 0 0,.int .i64 n]:=by
  match vs,hlv,hvs with
  | [v1,v2],_,hvs=>
   have e1:=ze (hvs 0 v1 _ rfl rfl);have e2:=ze (hvs 1 v2 _ rfl rfl);cases e1;cases e2;rfl
 subst hv;refine Calls.mono (zrP n w h0 hb) ?_;rintro ex w' ⟨cap,cs,rfl,rfl,hsz,_,hm⟩;have hnew:(w.drew.alloc (.cells cs 91)).heap[w.heap.size]?=some (.cells cs 91 (0,0)):=heap_alloc_new w.drew _;have hold:∀ b,b < w.heap.size->(w.drew.alloc (.cells cs 91)).heap[b]?=w.heap[b]?:=λb hb=>heap_alloc_old w.drew _ b hb
 have hsz2:(w.drew.alloc (.cells cs 91)).heap.size=w.heap.size+1:=by rw [World.size_alloc];rfl
 refine ⟨_,{ C with cur:=λ_=>.slice (some ⟨w.heap.size,0,none⟩) 0 cap },rfl,{
  kx:=⟨rfl,rfl,rfl,by omega,λb hb _=>hold b hb⟩
  fr:={
   blt:=λb hb=>by have:=fr.blt b hb;omega
   ob:=λj o hj=>by
    obtain ⟨rfl,rfl⟩:=zr hj;exact ⟨[],⟨by simp,.inr ⟨w.heap.size,cap,cs,rfl,xa5 _,hnew,xa5 _,hm,hsz,by simp⟩⟩,.nil,λx hx=>by simp at hx,by omega⟩
   objs:=λj o hj=>by obtain ⟨rfl,rfl⟩:=zr hj;trivial
   fz:=λj o hj=>by obtain ⟨rfl,rfl⟩:=zr hj;rfl
   sep:=λj o b hj hb=>by
    obtain ⟨rfl,rfl⟩:=zr hj;simp only [blk,Value.ownBlock,xaR] at hb;exact ⟨by omega,λh=>by have:=fr.blt b h;omega⟩
   dis:=λj j' o o' b hne hj hj' _ _=>by obtain ⟨rfl,_⟩:=zr hj;obtain ⟨rfl,_⟩:=zr hj';exact absurd rfl hne }
  b1:=λ_ h=>h
  b2:=λ_ h=>.inl h
  y:=rfl
  fol:=λj o hj=>by simp [zj] at hj
  tied:=λj o o' hj _ _ _=>by simp [zj] at hj
  bk:=λj o b hj hb=>by
   obtain ⟨rfl,rfl⟩:=zr hj;simp only [blk,Value.ownBlock,xaR] at hb;exact .inr (by omega)
  rp:=zcd rfl
  scr:=.row (zK _ _) (xaj _) }⟩
def zxw (w:World):Calls prog 221 #[.slice none 0 0,.int .i64 0] w λe w'=>e=.returned (.slice none 0 0)/\w'=w:=by
 go_enter func221,ntmps221
 go_wp2
 all_goals (go_ret;exact ⟨rfl,rfl⟩)
def zpk:Acts prog 221 [.p .nilsl,.p (.i .i64 0)] [] (.p .nilsl) []:=by
 refine ⟨⟨_,_,func221,rfl,rfl⟩,λj o hj=>by simp [zj] at hj,λj o hj=>by simp [zj] at hj,λw C vs fr hlv hvs=>?_⟩
 have hv:vs=[.slice none 0 0,.int .i64 0]:=by
  match vs,hlv,hvs with
  | [v1,v2],_,hvs=>
   have e1:=ze (hvs 0 v1 _ rfl rfl);have e2:=ze (hvs 1 v2 _ rfl rfl);cases e1;cases e2;rfl
 subst hv;refine Calls.mono (zxw w) ?_;rintro ex w' ⟨rfl,rfl⟩;refine ⟨_,C,rfl,{
  kx:=⟨rfl,rfl,rfl,xaj _,λb hb _=>rfl⟩
  fr:={
   blt:=fr.blt
   ob:=λj o hj=>by simp [zj] at hj
   objs:=λj o hj=>by simp [zj] at hj
   fz:=λj o hj=>by simp [zj] at hj
   sep:=λj o b hj hb=>by simp [zj] at hj
   dis:=λj j' o o' b hne hj hj' _ _=>by simp [zj] at hj }
  b1:=λ_ h=>h
  b2:=λ_ h=>.inl h
  y:=rfl
  fol:=λj o hj=>by simp [zj] at hj
  tied:=λj o o' hj _ _ _=>by simp [zj] at hj
  bk:=λj o b hj hb=>by simp [zj] at hj
  rp:=.p .nilsl
  scr:=.p _ }⟩
open Go.RowKit Tryz
abbrev zuP (A:List Lea):PV:=.sl 3 (A.map Lea.pv)
def zdY {L:List (List Lea)} {k:Nat} {x:List Lea} (h:L[k]?=some x):(L.take (k+1)).flatten=(L.take k).flatten++x:=by
 rw [zam h,List.flatten_append];simp
def zcS (L:List (List Lea)) (k:Nat):(L.take k).flatten.length<=L.flatten.length:=by
 conv=>rhs;rw [<-xaw k L,List.flatten_append,xae]
 omega
def zqV (L:List (List Lea)) (hn:L.flatten.length<=100000) (hm:L.length<=1000):Pure prog 151 [.sl 1 (L.map zuP)] (zuP L.flatten):=by
 refine pz func151 f151.eq_1 λhw X hX=>?_
 repeat' first|refine gC ?_ ?_<;>intro hc<;>try contradiction|refine gG ?_|show AK _;intro J Z|refine gJ ?_|omega|exact aT
 refine zi (κ:=Nat) (λk=>⟨[(0,.p (.sl 1 (L.map zuP))),(3,.p (.i .i64 ((L.take k).flatten.length))),(9,.p (.sl 1 (L.map zuP))),(10,.p (.i .i64 L.length)),(11,.p (.i .i64 k))],[],[],false⟩) (λk=>k<=L.length) (λk=>L.length - k) 0 ?_ ?_ ?_
 ·exact sS
 ·simp
 ·intro k hk;have hl:=zcS L k;have hl1:=zcS L (k+1)
  repeat first|refine gG ?_|show AK _;intro J Z|refine gJ ?_|omega|exact aT
  (refine gC ?_ ?_<;>intro hc<;>try contradiction)
  ·obtain ⟨x,hx⟩:=zm (i:=k) (l:=L) (by omega)
   have hnx:=zdY hx;have hlx:(L.take (k+1)).flatten.length=(L.take k).flatten.length+x.length:=by rw [hnx,xae]
   have qe:=aI qR @hx;repeat' first|refine gC ?_ ?_<;>intro hc<;>try contradiction|refine gG ?_|show AK _;intro J Z|refine gJ ?_|omega|exact aT
   all_goals exact ⟨k+1,by omega,by omega,by simp [hlx]⟩
  ·have e:k=L.length:=by omega
   subst e;rw [xas]
   by_cases h0:L.flatten.length=0
   ·have hz:L.flatten=[]:=xaq h0;rw [h0];have qe:=@qR;repeat' first|refine gC ?_ ?_<;>intro hc<;>try contradiction|refine zl [(900,900)] (zpk) ?_|refine gG ?_|show AK _;intro J Z|refine gJ ?_|omega|exact aT
    refine zaO 900 91 3 [(6,.row 900 0),(25,.p (.sl 1 (L.map zuP))),(26,.p (.i .i64 L.length)),(27,.p (.i .i64 0))] [] ?_ ?_
    ·simp only [Own,zaL,zaA,zbr,zax,qS,seval,za5,rn,rens,LV.ren,LObj.ren]
    refine zi (κ:=Nat) (λk=>⟨[(6,.row 900 (L.take k).flatten.length),(25,.p (.sl 1 (L.map zuP))),(26,.p (.i .i64 L.length)),(27,.p (.i .i64 k))],[(900,.row 91 3 ((L.take k).flatten.map Lea.pv) false)],[],false⟩) (λk=>k<=L.length) (λk=>L.length - k) 0 ?_ ?_ ?_
    ·simp only [qS,seval,za5,rn,rens,LV.ren,LObj.ren]<;>simp
    ·simp
    ·intro k hk;have hl:=zcS L k;have hl1:=zcS L (k+1)
     repeat first|refine gG ?_|show AK _;intro J Z|refine gJ ?_|omega|exact aT
     (refine gC ?_ ?_<;>intro hc<;>try contradiction)
     ·obtain ⟨x,hx⟩:=zm (i:=k) (l:=L) (by omega)
      have hnx:=zdY hx;have hlx:(L.take (k+1)).flatten.length=(L.take k).flatten.length+x.length:=by rw [hnx,xae]
      have hA:=eq_true (zvZ x);have qe:=aI qR (aI @hx @hA);repeat' first|refine gC ?_ ?_<;>intro hc<;>try contradiction|refine gG ?_|show AK _;intro J Z|refine gJ ?_|omega|exact aT
      all_goals exact ⟨k+1,by omega,by omega,by simp [hlx],by rw [hnx];simp⟩
     ·have e:k=L.length:=by omega
      subst e;have ht:L.take L.length=L:=xas;have qe:=aI qR @ht;exact gD0
   ·have qe:=@qR;repeat' first|refine gC ?_ ?_<;>intro hc<;>try contradiction|refine zl [(900,900)] (zsy L.flatten.length (by omega) (by omega)) ?_|refine gG ?_|show AK _;intro J Z|refine gJ ?_|omega|exact aT
    refine zi (κ:=Nat) (λk=>⟨[(6,.row 900 (L.take k).flatten.length),(25,.p (.sl 1 (L.map zuP))),(26,.p (.i .i64 L.length)),(27,.p (.i .i64 k))],[(900,.row 91 3 ((L.take k).flatten.map Lea.pv) false)],[],false⟩) (λk=>k<=L.length) (λk=>L.length - k) 0 ?_ ?_ ?_
    ·simp only [qS,seval,za5,rn,rens,LV.ren,LObj.ren]<;>simp
    ·simp
    ·intro k hk;have hl:=zcS L k;have hl1:=zcS L (k+1)
     repeat first|refine gG ?_|show AK _;intro J Z|refine gJ ?_|omega|exact aT
     (refine gC ?_ ?_<;>intro hc<;>try contradiction)
     ·obtain ⟨x,hx⟩:=zm (i:=k) (l:=L) (by omega)
      have hnx:=zdY hx;have hlx:(L.take (k+1)).flatten.length=(L.take k).flatten.length+x.length:=by rw [hnx,xae]
      have hA:=eq_true (zvZ x);have qe:=aI qR (aI @hx @hA);repeat' first|refine gC ?_ ?_<;>intro hc<;>try contradiction|refine gG ?_|show AK _;intro J Z|refine gJ ?_|omega|exact aT
      all_goals exact ⟨k+1,by omega,by omega,by simp [hlx],by rw [hnx];simp⟩
     ·have e:k=L.length:=by omega
      subst e;have ht:L.take L.length=L:=xas;have qe:=aI qR @ht;exact gD0
def ztU (s:Slt) (d:Int):Int:=zcX (λl=>decide (l.fro<=d) && decide (d<=l.to)) s.ls
def zv9 (s:Slt) (d:Int):Int:=if ztU s d < 0 then 7 else 0
def recL (s:Slt) (d:Int):List Lea:=s.ls.take (ztU s d).toNat++(zhi (d - 1) ((s.ls.take ((ztU s d).toNat+1)).drop (ztU s d).toNat)++s.ls.drop ((ztU s d).toNat+1))
def zv8 (s:Slt) (d:Int):Slt:=⟨s.req,s.holder,recL s d,s.sh⟩
def zsD (L:List Slt) (i:Nat) (s:Slt) (d:Int) (hs:L[i]?=some s) (hok:zld s) (hd:0<=d/\d<=99999):Acts prog 150 [.ep 900 L.length i 0,.p (.ip (.i .i64 d) 0)] [(900,.row 84 16 (L.map Slt.pv) false)] (.p (.i .i64 (zv9 s d)))
  [(900,.row 84 16 (if zv9 s d=0 then (L.map Slt.pv).set i (zv8 s d).pv else L.map Slt.pv) false)]:=by
 have hi:i < L.length:=(xaa.1 hs).1;have hi':i < (L.map Slt.pv).length:=by simpa using hi
 have hg:=λa=>zc3 (L.map Slt.pv) i a hi'
 obtain ⟨hl,_⟩:=hok;obtain ⟨hd0,hd1⟩:=hd
 by_cases h:ztU s d < 0
 ·have hE:zv9 s d=7:=if_pos h;rw [hE,if_neg (by decide)]
  have h1:(zcX (λl=>decide (l.fro<=d) && decide (d<=l.to)) s.ls < 0)=True:=eq_true h
  refine zR (cF func150 f150.eq_1) (by simp) (by simp [scPs,scP,zj]) (by simp [scObj]) ⟨rfl,trivial⟩ (by simp [scObj]) (by simp [zc1,zj]) λX hX=>?_
  unfold zE ghO;have qe:=aI qR (aI @qN (aI @gLV.eq_2 (aI @hs (aI @h1 (aI @rtN (aI @rtR @decide_true))))));repeat' first|refine gC ?_ ?_<;>intro hc<;>try contradiction|refine za (zer s d) ?_|refine gG ?_|show AK _;intro J Z|refine gJ ?_|omega|exact aT
  all_goals exact .inl (.mk1 (h2:=by simp only [qS,seval,keepG.eq_1,keepG.eq_2,gLV.eq_2]<;>simp))
 ·have hE:zv9 s d=0:=if_neg h;rw [hE,if_pos rfl];obtain ⟨k,hk⟩:=Int.eq_ofNat_of_zero_le (show 0<=ztU s d by omega)
  have hj:zcX (λl=>decide (l.fro<=d) && decide (d<=l.to)) s.ls=(k:Int):=hk
  have hlt:k < s.ls.length:=by
   have:=zju (λl:Lea=>decide (l.fro<=d) && decide (d<=l.to)) s.ls
   rw [hj] at this;omega
  have hk0:((k:Int)).toNat=k:=by omega
  have hk1:((k:Int)+1).toNat=k+1:=by omega
  have h1:((k:Int) < 0)=False:=eq_false (by omega)
  have hT:∀ (l:List Lea) (m:Nat),(l.map Lea.pv).take m=(l.take m).map Lea.pv:=λl m=>by rw [xbk]
  have hD:∀ (l:List Lea) (m:Nat),(l.map Lea.pv).drop m=(l.drop m).map Lea.pv:=λl m=>by rw [List.map_drop]
  have hF:[s.ls.take k,zhi (d - 1) ((s.ls.take (k+1)).drop k),s.ls.drop (k+1)].flatten=s.ls.take k++(zhi (d - 1) ((s.ls.take (k+1)).drop k)++s.ls.drop (k+1)):=by simp
  have hS:zv8 s d=⟨s.req,s.holder,s.ls.take k++(zhi (d - 1) ((s.ls.take (k+1)).drop k)++s.ls.drop (k+1)),s.sh⟩:=by
   rw [zv8,recL,hk];simp
  have hc:=zkU (d - 1) ((s.ls.take (k+1)).drop k);have hc2:((s.ls.take (k+1)).drop k).length<=s.ls.length:=by simp;omega
  have hfl:[s.ls.take k,zhi (d - 1) ((s.ls.take (k+1)).drop k),s.ls.drop (k+1)].flatten.length<=100000:=by
   rw [hF];simp only [xae,xai,xaF] at hc hc2 ⊢;omega
  refine zR (cF func150 f150.eq_1) (by simp) (by simp [scPs,scP,zj]) (by simp [scObj]) ⟨rfl,trivial⟩ (by simp [scObj]) (by simp [zc1,zj]) λX hX=>?_
  unfold zE ghO;have h1192:=zqV [s.ls.take k,zhi (d - 1) ((s.ls.take (k+1)).drop k),s.ls.drop (k+1)] hfl (by simp)
  rw [hF] at h1192;have qe:=aI qR (aI @qN (aI @gLV.eq_2 (aI @hs (aI @hg (aI @hj (aI @h1 (aI @hk0 (aI @hk1 (aI @hT (aI @hD (aI @List.set_set.{0} (aI @List.length_set.{0} (aI @rtN (aI @rtR @decide_false))))))))))))));repeat' first|refine gC ?_ ?_<;>intro hc<;>try contradiction|refine za (zer s d) ?_|refine za (zgH ((s.ls.take (k+1)).drop k) (d - 1) (by omega)) ?_|refine zA (h1192) ?_|refine gG ?_|show AK _;intro J Z|refine gJ ?_|omega|exact aT
  rw [hS];exact .inl (.mk1 (h2:=by simp only [qS,seval,keepG.eq_1,keepG.eq_2,gLV.eq_2]<;>simp))
def zj5 {b:Bk} (hb:zfy b) {n:ByteArray} (h:b.slots[zx b n]?=some (zn b n)):zld (zn b n):=hb.s _ (xad h)
def znr {d a c:Int} (h:rng d a c=0):a<=d/\d<=c:=zdl.1 h
def reC (b:Bk) (c n:ByteArray) (d:Int):Int:=zfM b c n (rng d 0 99999) (zv9 (zn b n) d)
def reB (b:Bk) (c n:ByteArray) (d:Int):Bk:=if reC b c n d=0 then zo8 b n (zv8 (zn b n) d) else bk0
def zuD {b:Bk} {c n:ByteArray} {e:Int} (h:zhn b c n e=0):e=0:=fE0 (za6 h).2.2.2 _ (by simp)
def zq5 (b:Bk) (c n:ByteArray) (d:Int) (hb:zfy b):Pure prog 86 [b.pv,.s c,.s n,.i .i64 d] (.tup [(reB b c n d).pv,.i .i64 (reC b c n d)]):=by
 have hch:=zk0 (caps:=[.ip (.i .i64 d) 0]) b c n (rng d 0 99999) (zv9 (zn b n) d) (zv8 (zn b n) d) (zv8 (zn b n) d).pv (b.slots.map Slt.pv) hb (.refl _) (by simp) λh=>zsD b.slots (zx b n) (zn b n) d (za6 h).2.1 (zj5 hb (za6 h).2.1) (znr (zuD h))
 refine pz func86 f86.eq_1 λhw X hX=>?_
 have qe:=aI qR @qN;have jA:=zb0 d;have jB:=hch;exact gD2
def reB_0 {b:Bk} {c n:ByteArray} {d:Int} (h:reC b c n d≠0):reB b c n d=bk0:=if_neg h
def zrd (b:Bk) (c n:ByteArray) (d:Int) (hb:zG b=0->zfy b):Pure prog 37 [b.pv,.s c,.s n,.i .i64 d] (.tup [(zhm b (reB b c n d) (reC b c n d)).1.pv,.i .i64 (zhm b (reB b c n d) (reC b c n d)).2]):=by
 by_cases h:zG b=0
 ·have e1:(zG b=0)=True:=eq_true h;rw [zhj h reB_0];refine pz func37 f37.eq_1 λhw X hX=>?_
  have qe:=aI qR (aI @qN @e1);have jA:=zV b;have jB:=zq5 b c n d (hb h);exact gD2
 ·have e1:(zG b=0)=False:=eq_false h;rw [zeD h];refine zar (r:=.tup [.agg [.nilsl,.nilsl],.i .i64 (zG b)]) ?_ (zbt _);refine pz func37 f37.eq_1 λhw X hX=>?_
  have qe:=aI qR (aI @qN @e1);have jA:=zV b;exact gD2
def zsp (s:Slt) (d:Int):Int:=if s.req.per.to < d then 30 else 0
def zpy (p:Per) (d:Int):Per:=⟨p.fro,d - 1,p.days⟩
def zvU (s:Slt) (d:Int):Slt:=⟨{ s.req with per:=zpy s.req.per d },s.holder,zhi (d - 1) s.ls,s.sh⟩
def zsC (L:List Slt) (i:Nat) (s:Slt) (d:Int) (hs:L[i]?=some s) (hok:zld s) (hd:0<=d/\d<=99999):Acts prog 130 [.ep 900 L.length i 0,.p (.ip (.i .i64 d) 0)] [(900,.row 84 16 (L.map Slt.pv) false)] (.p (.i .i64 (zsp s d)))
  [(900,.row 84 16 (if zsp s d=0 then (L.map Slt.pv).set i (zvU s d).pv else L.map Slt.pv) false)]:=by
 have hi:i < L.length:=(xaa.1 hs).1;have hi':i < (L.map Slt.pv).length:=by simpa using hi
 have hg:=λa=>zc3 (L.map Slt.pv) i a hi'
 obtain ⟨hl,_⟩:=hok;obtain ⟨hd0,hd1⟩:=hd
 by_cases h:s.req.per.to < d
 ·have hE:zsp s d=30:=if_pos h;rw [hE,if_neg (by decide)]
  have h1:=eq_true h;refine zR (cF func130 f130.eq_1) (by simp) (by simp [scPs,scP,zj]) (by simp [scObj]) ⟨rfl,trivial⟩ (by simp [scObj]) (by simp [zc1,zj]) λX hX=>?_
  unfold zE ghO;have qe:=aI qR (aI @qN (aI @gLV.eq_2 (aI @hs (aI @h1 (aI @rtN (aI @rtR @decide_true))))));repeat' first|refine gC ?_ ?_<;>intro hc<;>try contradiction|refine gG ?_|show AK _;intro J Z|refine gJ ?_|omega|exact aT
  all_goals exact .inl (.mk1 (h2:=by simp only [qS,seval,keepG.eq_1,keepG.eq_2,gLV.eq_2]<;>simp))
 ·have hE:zsp s d=0:=if_neg h;rw [hE,if_pos rfl];have h1:=eq_false h;refine zR (cF func130 f130.eq_1) (by simp) (by simp [scPs,scP,zj]) (by simp [scObj]) ⟨rfl,trivial⟩ (by simp [scObj]) (by simp [zc1,zj]) λX hX=>?_
  unfold zE ghO;have qe:=aI qR (aI @qN (aI @gLV.eq_2 (aI @hs (aI @hg (aI @h1 (aI @List.set_set.{0} (aI @List.length_set.{0} (aI @rtN (aI @rtR @decide_false)))))))));repeat' first|refine gC ?_ ?_<;>intro hc<;>try contradiction|refine za (zgH s.ls (d - 1) (by omega)) ?_|refine gG ?_|show AK _;intro J Z|refine gJ ?_|omega|exact aT
  all_goals exact .inl (.mk1 (h2:=by simp only [qS,seval,keepG.eq_1,keepG.eq_2,gLV.eq_2]<;>simp))
def zpl (L:List Slt) (i:Nat) (s:Slt) (d:Int) (hs:L[i]?=some s) (hok:zld s) (hd:0<=d/\d<=99999) (h:zsp s d=0):Acts prog 130 [.ep 900 L.length i 0,.lp 1 0] [(900,.row 84 16 (L.map Slt.pv) false),(1,.box [.p (.i .i64 d)] false)] (.p (.i .i64 0))
  [(900,.row 84 16 ((L.map Slt.pv).set i (zvU s d).pv) false),(1,.box [.p (.i .i64 d)] false)]:=by
 have hi:i < L.length:=(xaa.1 hs).1;have hi':i < (L.map Slt.pv).length:=by simpa using hi
 have hg:=λa=>zc3 (L.map Slt.pv) i a hi'
 obtain ⟨hl,_⟩:=hok;obtain ⟨hd0,hd1⟩:=hd;have h':¬s.req.per.to < d:=λk=>by rw [zsp,if_pos k] at h;omega
 have h1:=eq_false h';refine zR (cF func130 f130.eq_1) (by simp) (by simp [scPs,scP,zj]) (by simp [scObj,scPs,scP]) ⟨rfl,rfl,trivial⟩ (by simp [scObj,scPs,scP]) (by simp [zc1,zj]) λX hX=>?_
 unfold zE ghO;have qe:=aI qR (aI @qN (aI @gLV.eq_1 (aI @gLV.eq_2 (aI @hs (aI @hg (aI @h1 (aI @List.set_set.{0} (aI @List.length_set.{0} (aI @rtN (aI @rtR @decide_false))))))))));repeat' first|refine gC ?_ ?_<;>intro hc<;>try contradiction|refine za (zgH s.ls (d - 1) (by omega)) ?_|refine gG ?_|show AK _;intro J Z|refine gJ ?_|omega|exact aT
 all_goals exact .inl (.mk1 (h2:=by simp only [qS,seval,keepG.eq_1,keepG.eq_2,gLV.eq_1,gLV.eq_2]<;>simp))
def zpf (b:Bk) (c n:ByteArray) (d:Int):Int:=zfM b c n (rng d 0 99999) (zsp (zn b n) d)
def zhk (b:Bk) (n:ByteArray) (d:Int):Bk:=zo8 b n (zvU (zn b n) d)
def zsG (b:Bk) (c n:ByteArray) (d:Int) (hb:zfy b) (h:zpf b c n d=0):Acts prog 129 [.p b.pv,.p (.s c),.p (.s n),.p (.i .i64 (rng d 0 99999)),.fn (.func 130) [] [.lp 1 0]] [(1,.box [.p (.i .i64 d)] false)] (.tup [.agg [.row 200 (zhk b n d).slots.length,.row 201 (zhk b n d).wait.length],.p (.i .i64 0)])
  [(1,.box [.p (.i .i64 d)] false),(200,.row 84 16 ((zhk b n d).slots.map Slt.pv) false),(201,.row 73 14 ((zhk b n d).wait.map Wsh.pv) false)]:=by
 have hown:zhn b c n (rng d 0 99999)=0:=fE0 h _ (by simp)
 have hce:zsp (zn b n) d=0:=fE0 h _ (by simp)
 obtain ⟨hat,hsl,hh,h3⟩:=za6 hown;have hso:=zj5 hb hsl;have hcl:=zpl b.slots (zx b n) (zn b n) d hsl hso (znr (zuD hown)) hce;obtain ⟨hs,hn,hwl⟩:=hb;have hlt:=zdD n (b.slots.map (·.req.name));rw [xaf] at hlt;have hfd:(if atL n (b.slots.map (·.req.name)) < 0 then (10:Int) else 0)=zfd b.slots n:=rfl
 have h3t:(zf [zaG c,zfd b.slots n,rng d 0 99999]=0)=True:=eq_true h3;have hlen:(zhk b n d).slots.length=b.slots.length:=by rw [zhk,zo8];simp
 have hmap:(zhk b n d).slots.map Slt.pv=(b.slots.map Slt.pv).set (zx b n) (zvU (zn b n) d).pv:=by rw [zhk,zo8,xbb]
 have hwt:(zhk b n d).wait=b.wait:=rfl;rw [zx] at hcl hsl hmap;generalize zn b n=s at hcl hsl hmap hh;rw [hlen,hmap,hwt];refine zR (cF func129 f129.eq_1) (by simp) (by simp [scPs,scP,zj]) (by simp [scObj,scPs,scP]) ⟨rfl,trivial⟩ (by simp [scObj,scPs,scP]) (by simp [zc1,zj]) λX hX=>?_
 unfold zE ghO;have qe:=aI qR (aI @qN (aI @gLV.eq_1 (aI @zaz (aI @zay (aI @zah (aI @hfd (aI @h3t (aI @hsl (aI @hh (aI @decide_true (aI @xam (aI @List.append_nil.{0} (aI @rtN @rtR)))))))))))));repeat' first|refine gC ?_ ?_<;>intro hc<;>try contradiction|refine za (zbv c) ?_|refine za (zY b n) ?_|refine za (zw [_,_,_]) ?_|refine zl [(100,200),(7,201)] (zbA b.slots b.wait hs (by omega) (by omega)) ?_|refine za (za7 b n) ?_|refine gG ?_|show AK _;intro J Z|refine gJ ?_|omega|exact aT
 refine ziJ [(900,200),(1,1)] (hf:=hcl) (hn:=?_);have qe:=aI qR (aI @qN (aI @gLV.eq_1 (aI @zaz (aI @zay (aI @zah (aI @List.length_set.{0} (aI @List.length_map.{0,0} (aI @rtN @rtR))))))));repeat' first|refine gC ?_ ?_<;>intro hc<;>try contradiction|refine gG ?_|show AK _;intro J Z|refine gJ ?_|omega|exact aT
 exact .inl (.mkT (h2:=by simp only [qS,seval,keepG.eq_1,keepG.eq_2,gLV.eq_1,gLV.eq_2]<;>simp))
def bckD (b:Bk) (n:ByteArray) (d:Int):Prop:=zat (zpy (zn b n).req.per d)=0/\¬(zdf (zpy (zn b n).req.per d)).length=0
instance (b:Bk) (n:ByteArray) (d:Int):Decidable (bckD b n d):=by unfold bckD;infer_instance
def zwd (b:Bk) (n:ByteArray) (d:Int):Bk:=if bckD b n d then zhk b n d else ⟨(zhk b n d).slots.take (zx b n)++(zhk b n d).slots.drop (zx b n+1),b.wait⟩
def zvV (b:Bk) (c n:ByteArray) (d:Int):Bk:=if zpf b c n d=0 then zwd b n d else bk0
def zte {b:Bk} {c n:ByteArray} {d:Int} (h:zpf b c n d≠0):zvV b c n d=bk0:=if_neg h
def zn6 (L:List Slt) (i:Nat) (s s':Slt) (h:L[i]?=some s) (h2:s'.req.name=s.req.name):(L.set i s').map (·.req.name)=L.map (·.req.name):=by
 obtain ⟨hi,he⟩:=xaa.1 h;rw [xbb,h2,<-he];refine List.ext_getElem (by simp) λj h1 h3=>?_
 rw [List.getElem_set]
 split
 ·rename_i e;subst e;simp
 ·rfl
def zq3 (b:Bk) (c n:ByteArray) (d:Int) (hb:zfy b):Pure prog 77 [b.pv,.s c,.s n,.i .i64 d] (.tup [(zvV b c n d).pv,.i .i64 (zpf b c n d)]):=by
 by_cases h:zpf b c n d=0
 ·have hch:=zsG b c n d hb h;have hown:zhn b c n (rng d 0 99999)=0:=fE0 h _ (by simp)
  obtain ⟨hat,hsl,hh,h3⟩:=za6 hown;obtain ⟨hs,hn,hwl⟩:=hb;have hlt:=zdD n (b.slots.map (·.req.name));rw [xaf] at hlt;have hlen:(zhk b n d).slots.length=b.slots.length:=by rw [zhk,zo8];simp
  have hnm:(zhk b n d).slots.map (·.req.name)=b.slots.map (·.req.name):=zn6 _ _ _ _ hsl rfl;have hfi:atL n (b.slots.map (·.req.name))=(zx b n:Int):=by rw [zx];omega
  have hi:zx b n < (zhk b n d).slots.length:=by rw [hlen];omega
  have hg:(zhk b n d).slots[zx b n]?=some (zvU (zn b n) d):=by
   rw [zhk,zo8];exact xbD (by omega)
  have hbB:zvV b c n d=zwd b n d:=if_pos h;rw [hbB,h];generalize hO:zhk b n d=O at hch hlen hnm hi hg;have hfind:=za7 O n;rw [hnm,hfi] at hfind
  by_cases hD:bckD b n d
  ·have hY:zwd b n d=O:=by rw [zwd,if_pos hD,hO]
   rw [hY];obtain ⟨d1,d2⟩:=hD;have e1:=eq_true d1;have e2:(((zdf (zpy (zn b n).req.per d)).length:Int)=0)=False:=eq_false (by omega)
   refine pz func77 f77.eq_1 λhw X hX=>?_
   have qe:=aI qR (aI @qN (aI @zaz (aI @zay (aI @zah (aI @hg (aI @d1 (aI @e2 (aI @decide_true @decide_false))))))));repeat' first|refine gC ?_ ?_<;>intro hc<;>try contradiction|refine za (zb0 d) ?_|refine zl [(1,7),(200,300),(201,301)] (hch) ?_|refine za (hfind) ?_|refine za (zep (zpy (zn b n).req.per d)) ?_|refine gG ?_|show AK _;intro J Z|refine gJ ?_|omega|exact aT
   exact .refl _
  ·have hY:zwd b n d=⟨O.slots.take (zx b n)++O.slots.drop (zx b n+1),b.wait⟩:=by rw [zwd,if_neg hD,hO]
   have hwO:O.wait=b.wait:=by rw [<-hO];rfl
   rw [hY,<-hwO];refine pz func77 f77.eq_1 λhw X hX=>?_
   by_cases d1:zat (zpy (zn b n).req.per d)=0
   ·have d2:(zdf (zpy (zn b n).req.per d)).length=0:=xbt λh=>hD ⟨d1,h⟩
    have e2:(((zdf (zpy (zn b n).req.per d)).length:Int)=0)=True:=eq_true (by omega)
    have qe:=aI qR (aI @qN (aI @zaz (aI @zay (aI @zah (aI @hg (aI @d1 (aI @e2 (aI @decide_true @decide_false))))))));repeat' first|refine gC ?_ ?_<;>intro hc<;>try contradiction|refine za (zb0 d) ?_|refine zl [(1,7),(200,300),(201,301)] (hch) ?_|refine za (hfind) ?_|refine za (zep (zpy (zn b n).req.per d)) ?_|refine gG ?_|show AK _;intro J Z|refine gJ ?_|omega|exact aT
    have hxl:(O.slots.map Slt.pv).length=O.slots.length:=by simp
    have hoa:oneAll (O.slots.map Slt.pv)=true:=by
     simp only [oneAll,List.all_map,xaB];intro x _;rfl
    refine zbL (zdv 300 rfl (λa0 c0=>[(50,.p (.rs a0 (O.slots.map Slt.pv).length c0)),(51,.p (.i .i64 (zx b n))),(53,.p (.i .i64 ((zx b n:Int)+1))),(10,.lp 10 0),(8,.lp 8 0)]) (λa0 c0=>[(10,.box [.p (.rs a0 (O.slots.map Slt.pv).length c0),.row 301 O.wait.length] false),(301,.row 73 14 (O.wait.map Wsh.pv) false),(8,.box [.p .nilsl,.p .nilsl] false)]) λa0 c0=>⟨?_,?_,?_,?_⟩) ?_
    ·exact ⟨.inr ⟨.rs a0 _ c0,.inl (.inr ⟨by show LV.row 300 _=LV.row 300 _;rw [hxl],rfl⟩),rfl⟩,.inl rfl,.inl rfl,.inl rfl,.inl rfl,trivial⟩
    ·exact ⟨.inr ⟨_,rfl,_,_,_,rfl,rfl,.inr ⟨by show LV.row 300 _=LV.row 300 _;rw [hxl],rfl⟩,.inl rfl,trivial⟩,.inl rfl,.inl rfl,trivial⟩
    ·simp [scEnv,scP,zj]
    ·simp [scObj,scPs,scP,zj]
    rintro _ ⟨a0,c0,rfl⟩;refine (show zh _ _ _ _ _ (St.mk _ _ [] false) _ from ?_)
    have h1208:=zlc (O.slots.map Slt.pv) (zx b n) a0 c0 (by rw [hxl];exact hi) hoa
    refine zdQ [(900,300)] (hf:=h1208) (hn:=?_);refine zcn 1 ?_;have qe:=aI qR (aI @rn.eq_1 @rn.eq_2);repeat' first|refine gC ?_ ?_<;>intro hc<;>try contradiction|refine gG ?_|show AK _;intro J Z|refine gJ ?_|omega|exact aT
    have hl2:(List.take (zx b n) (O.slots.map Slt.pv)++List.drop (zx b n+1) (O.slots.map Slt.pv)).length=O.slots.length - 1:=by simp;omega
    have htk:(List.take (zx b n) (O.slots.map Slt.pv)++List.drop (zx b n+1) (O.slots.map Slt.pv)++[zsl]).take (O.slots.length - 1)=(O.slots.take (zx b n)++O.slots.drop (zx b n+1)).map Slt.pv:=by
     rw [xbe (by omega),xag (by omega)];simp
    refine zbL (zfb 300 (O.slots.length - 1) (e:=84) (sz:=16) (c0:=c0) (xs:=List.take (zx b n) (O.slots.map Slt.pv)++List.drop (zx b n+1) (O.slots.map Slt.pv)++[zsl]) (a0:=a0) [(54,.p (.sl 16 ((O.slots.take (zx b n)++O.slots.drop (zx b n+1)).map Slt.pv))),(55,.lp 10 0),(10,.lp 10 0),(8,.lp 8 0)] [(10,.box [.p (.rs a0 O.slots.length c0),.row 301 O.wait.length] false),(301,.row 73 14 (O.wait.map Wsh.pv) false),(8,.box [.p .nilsl,.p .nilsl] false)] rfl (by rw [xae,hl2];omega) ⟨?_,?_,?_,?_⟩) ?_
    ·exact ⟨.inr ⟨_,_,rfl,rfl,by rw [<-htk];exact .inl (.inr ⟨rfl,rfl⟩)⟩,.inl rfl,.inl rfl,.inl rfl,trivial⟩
    ·exact ⟨.inl rfl,.inl rfl,.inl rfl,trivial⟩
    ·simp [scEnv,scP,zj]
    ·simp [scObj,scPs,scP,zj]
    rintro _ rfl;refine (show zh _ _ _ _ _ (St.mk _ _ [] false) _ from zF ?_)
    have qe:=aI qR @zah;exact gD0
   ·have d1f:=eq_false d1;have qe:=aI qR (aI @qN (aI @zaz (aI @zay (aI @zah (aI @hg (aI @d1f (aI @decide_true @decide_false)))))));repeat' first|refine gC ?_ ?_<;>intro hc<;>try contradiction|refine za (zb0 d) ?_|refine zl [(1,7),(200,300),(201,301)] (hch) ?_|refine za (hfind) ?_|refine za (zep (zpy (zn b n).req.per d)) ?_|refine gG ?_|show AK _;intro J Z|refine gJ ?_|omega|exact aT
    have hxl:(O.slots.map Slt.pv).length=O.slots.length:=by simp
    have hoa:oneAll (O.slots.map Slt.pv)=true:=by
     simp only [oneAll,List.all_map,xaB];intro x _;rfl
    refine zbL (zdv 300 rfl (λa0 c0=>[(50,.p (.rs a0 (O.slots.map Slt.pv).length c0)),(51,.p (.i .i64 (zx b n))),(53,.p (.i .i64 ((zx b n:Int)+1))),(10,.lp 10 0),(8,.lp 8 0)]) (λa0 c0=>[(10,.box [.p (.rs a0 (O.slots.map Slt.pv).length c0),.row 301 O.wait.length] false),(301,.row 73 14 (O.wait.map Wsh.pv) false),(8,.box [.p .nilsl,.p .nilsl] false)]) λa0 c0=>⟨?_,?_,?_,?_⟩) ?_
    ·exact ⟨.inr ⟨.rs a0 _ c0,.inl (.inr ⟨by show LV.row 300 _=LV.row 300 _;rw [hxl],rfl⟩),rfl⟩,.inl rfl,.inl rfl,.inl rfl,.inl rfl,trivial⟩
    ·exact ⟨.inr ⟨_,rfl,_,_,_,rfl,rfl,.inr ⟨by show LV.row 300 _=LV.row 300 _;rw [hxl],rfl⟩,.inl rfl,trivial⟩,.inl rfl,.inl rfl,trivial⟩
    ·simp [scEnv,scP,zj]
    ·simp [scObj,scPs,scP,zj]
    rintro _ ⟨a0,c0,rfl⟩;refine (show zh _ _ _ _ _ (St.mk _ _ [] false) _ from ?_)
    have h1208:=zlc (O.slots.map Slt.pv) (zx b n) a0 c0 (by rw [hxl];exact hi) hoa
    refine zdQ [(900,300)] (hf:=h1208) (hn:=?_);refine zcn 1 ?_;have qe:=aI qR (aI @rn.eq_1 @rn.eq_2);repeat' first|refine gC ?_ ?_<;>intro hc<;>try contradiction|refine gG ?_|show AK _;intro J Z|refine gJ ?_|omega|exact aT
    have hl2:(List.take (zx b n) (O.slots.map Slt.pv)++List.drop (zx b n+1) (O.slots.map Slt.pv)).length=O.slots.length - 1:=by simp;omega
    have htk:(List.take (zx b n) (O.slots.map Slt.pv)++List.drop (zx b n+1) (O.slots.map Slt.pv)++[zsl]).take (O.slots.length - 1)=(O.slots.take (zx b n)++O.slots.drop (zx b n+1)).map Slt.pv:=by
     rw [xbe (by omega),xag (by omega)];simp
    refine zbL (zfb 300 (O.slots.length - 1) (e:=84) (sz:=16) (c0:=c0) (xs:=List.take (zx b n) (O.slots.map Slt.pv)++List.drop (zx b n+1) (O.slots.map Slt.pv)++[zsl]) (a0:=a0) [(54,.p (.sl 16 ((O.slots.take (zx b n)++O.slots.drop (zx b n+1)).map Slt.pv))),(55,.lp 10 0),(10,.lp 10 0),(8,.lp 8 0)] [(10,.box [.p (.rs a0 O.slots.length c0),.row 301 O.wait.length] false),(301,.row 73 14 (O.wait.map Wsh.pv) false),(8,.box [.p .nilsl,.p .nilsl] false)] rfl (by rw [xae,hl2];omega) ⟨?_,?_,?_,?_⟩) ?_
    ·exact ⟨.inr ⟨_,_,rfl,rfl,by rw [<-htk];exact .inl (.inr ⟨rfl,rfl⟩)⟩,.inl rfl,.inl rfl,.inl rfl,trivial⟩
    ·exact ⟨.inl rfl,.inl rfl,.inl rfl,trivial⟩
    ·simp [scEnv,scP,zj]
    ·simp [scObj,scPs,scP,zj]
    rintro _ rfl;refine (show zh _ _ _ _ _ (St.mk _ _ [] false) _ from zF ?_)
    have qe:=aI qR @zah;exact gD0
 ·have hch:=zk0 (caps:=[.ip (.i .i64 d) 0]) b c n (rng d 0 99999) (zsp (zn b n) d) (zvU (zn b n) d) (zvU (zn b n) d).pv (b.slots.map Slt.pv) hb (.refl _) (by simp) λh=>zsC b.slots (zx b n) (zn b n) d (za6 h).2.1 (zj5 hb (za6 h).2.1) (znr (zuD h))
  rw [<-zpf,if_neg h] at hch;rw [zte h];have e1:=eq_false h;refine zar (r:=.tup [.agg [.nilsl,.nilsl],.i .i64 (zpf b c n d)]) ?_ (zbt _);refine pz func77 f77.eq_1 λhw X hX=>?_
  have qe:=aI qR (aI @qN @e1);have jA:=zb0 d;have jB:=hch;exact gD2
def zko (b:Bk) (c n:ByteArray) (d:Int) (hb:zG b=0->zfy b):Pure prog 30 [b.pv,.s c,.s n,.i .i64 d] (.tup [(zhm b (zvV b c n d) (zpf b c n d)).1.pv,.i .i64 (zhm b (zvV b c n d) (zpf b c n d)).2]):=by
 by_cases h:zG b=0
 ·have e1:(zG b=0)=True:=eq_true h;rw [zhj h zte];refine pz func30 f30.eq_1 λhw X hX=>?_
  have qe:=aI qR (aI @qN @e1);have jA:=zV b;have jB:=zq3 b c n d (hb h);exact gD2
 ·have e1:(zG b=0)=False:=eq_false h;rw [zeD h];refine zar (r:=.tup [.agg [.nilsl,.nilsl],.i .i64 (zG b)]) ?_ (zbt _);refine pz func30 f30.eq_1 λhw X hX=>?_
  have qe:=aI qR (aI @qN @e1);have jA:=zV b;exact gD2
end Go.Proofs.YtijgimeokgbifaaGreat
