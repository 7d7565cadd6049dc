/- Contracts of functions, for the claim. No conditions. -/
import Derived.Test.YtijgimeokgbifaaGreatK23
import Derived.Test.YtijgimeokgbifaaGreatK16
set_option linter.all false
set_option maxHeartbeats 8000000
set_option maxRecDepth 100000
namespace Go.Proofs.YtijgimeokgbifaaGreat
open Go.RowKit Go.Lib
theorem zrH (n : Nat) (w : World) (h0 : 0 < n) (hb : n * 32 <= 140737488355328) :
    Calls Tryz.prog 221 #[.slice none 0 0, .int .i64 n] w λe w' => ∃ cap cs, e = .returned (.slice (some ⟨w.heap.size, 0, none⟩) 0 cap) /\ w' = w.drew.alloc (.cells cs 91) /\ cs.size = cap * 3 /\ n <= cap /\ cap <= maxLen := by
  have h1 : ¬ ((n : Int) < 0) := by omega
  have h3 : IntKind.i64.wrap (n : Int) = n := by simp only [IntKind.wrap, IntKind.bits, IntKind.signed]; simp; omega
  have h4 : (n : Int) > 0 := by omega
  obtain ⟨i0, z, hi0, hz0, hs0, hby, hzs⟩ : ∃ i z, Tryz.prog.info? 91 = some i /\ i.zero = some z /\ i.size = 3 /\ i.bytes = 32 /\ z.cells.size = 3 := ⟨_, _, rfl, rfl, rfl, rfl, rfl⟩
  have hrz : ∀ ty, (Builtin.append_ #[82, 3] ty #[.slice none 0 0, .int .i64 (n : Int)]).run Tryz.prog w =
      .ok (.slice (some ⟨w.heap.size, 0, none⟩) n (grownCap w n 0 91)) (w.drew.alloc (.cells ((#[] : Array Value) ++ Builtin.zeroCells z.cells n ++ Builtin.zeroCells z.cells (grownCap w n 0 91 - n)) 91)) := λty => by
    have h := Lib.run_append_grow_zeros w 82 3 ty 91 i0 z .i64 .i64 Tryz.underlying82 Tryz.underlying3 hi0 hz0 none 0 0 [] (run_firstCells_none w.drew i0.size 0 0 0) n (by omega) (by omega) (by omega) (by omega) (by rw [hby]; omega)
      (by rw [Nat.zero_add]; exact growslice_fits (by omega) (by rw [hby]; omega))
    rw [Nat.zero_add] at h
    exact h
  have hGn : n <= grownCap w n 0 91 := grownCap_ge w _ _ _
  have hG63 := grownCap_le_maxLen w n 0 91 (by unfold maxLen; omega)
  obtain ⟨G, hG⟩ : ∃ G, G = grownCap w n 0 91 := ⟨_, rfl⟩
  rw [<- hG] at hrz hGn hG63
  obtain ⟨cs, hcs⟩ : ∃ cs, cs = ((#[] : Array Value) ++ Builtin.zeroCells z.cells n ++ Builtin.zeroCells z.cells (G - n)) := ⟨_, rfl⟩
  have hcsz : cs.size = G * 3 := by
    have hz : ∀ k, (Builtin.zeroCells z.cells k).size = k * 3 := λk => by
      rw [size_zeroCells, hzs]
    rw [hcs, Array.size_append, Array.size_append, hz, hz]
    show 0 + n * 3 + (G - n) * 3 = _
    omega
  rw [<- hcs] at hrz
  have hG' : G <= 9223372036854775807 := by unfold maxLen at hG63; omega
  clear hG hcs
  go_enter Tryz.func221, Tryz.ntmps221
  go_wp2_with (at_builtin; refine Lib.wpList_append_run _ rfl _ _ _ _ rfl _ _ rfl rfl _ _ (hrz _) ?_)
  all_goals (go_ret; exact ⟨_, rfl, _, rfl, hcsz, hGn, hG63⟩)
abbrev zsl:PV:=.agg [.s (bs []),.s (bs []),.s (bs []),.s (bs []),.s (bs []),.s (bs []),.i .i64 0,.i .i64 0,.i .i64 0,.i .i64 0,.i .i64 0,.i .i64 0,.i .i64 0,.s (bs []),.nilsl,.nilsl]
theorem zcn (g:Nat) {e:TypeId} {fr:Nat × Nat}:∀ (vs:List Value) (o:Nat) (w:World) (cur:Array Value),w.heap[g]?=some (.cells cur e fr)->o+vs.length<=cur.size ->
  ∃ cur',(w.setCells g o vs).heap[g]?=some (.cells cur' e fr)/\cur'.size=cur.size/\cur'.toList=cur.toList.take o++vs++cur.toList.drop (o+vs.length)/\w.grownBy (w.setCells g o vs) (some g)
 | [],o,w,cur,h,hl=>⟨cur,h,rfl,by simp,⟨rfl,rfl,rfl,Nat.le_refl _,λ_ _ _=>rfl⟩⟩
 | v::r,o,w,cur,h,hl=>by
  have h1:(w.setCell ⟨g,o,none⟩ v).heap[g]?=some (.cells (cur.setIfInBounds o v) e fr):=by
   simp [World.setCell,Array.getElem?_modify,h]
  simp only [List.length_cons] at hl
  obtain ⟨cur',k1,k2,k3,k4⟩:=zcn g r (o+1) (w.setCell ⟨g,o,none⟩ v) (cur.setIfInBounds o v) h1 (by simp;omega)
  have hs3:(w.setCell ⟨g,o,none⟩ v).heap.size=w.heap.size:=by simp [World.setCell]
  refine ⟨cur',k1,by simpa using k2,?_,⟨k4.os,k4.tape,k4.output,(by rw [<-hs3];exact k4.size),λk hk hne=>?_⟩⟩
  ·rw [k3]
   simp only [Array.toList_setIfInBounds,List.length_cons]
   have hlt:o < cur.toList.length:=by simp;omega
   rw [List.take_add_one,List.getElem?_set_self hlt,List.take_set_of_le (Nat.le_refl _),List.drop_set_of_lt (by omega)]
   simp [Nat.add_comm,Nat.add_left_comm,Nat.add_assoc]
  ·have:=k4.block k (by simpa [World.setCell] using hk) hne
   rw [show (w.setCells g o (v::r))=(w.setCell ⟨g,o,none⟩ v).setCells g (o+1) r from rfl,this]
   have hkg:k≠g:=λe=>hne (by rw [e])
   simp [World.setCell,Array.getElem?_modify,Ne.symm hkg]
theorem zmq {P:Program} (w:World) (t e ty:TypeId) (z:Value) (sz:Nat) (ht:P.underlying t=some (.slice e)) (hv:∀ w,(zeroValue e).run P w=.ok z w) (hz:z.cells.size=sz) (h1:∀ u ∈ z.cells.toList,u.oneCell'=true) (b o c:Nat) (h0:0 < sz)
  (hc:∀ j,j < sz->(w.cell? ⟨b,o+j,none⟩).isSome=true) (hf:∀ j,j < sz->w.frozen? ⟨b,o+j,none⟩=false) :
  (Builtin.clear_ #[t] ty #[.slice (some ⟨b,o,none⟩) 1 c]).run P w=.ok (.tuple #[]) (w.setCells b o z.cells.toList):=by
 have hzc:(Builtin.zeroCells z.cells 1).toList=z.cells.toList:=by
  simp [Builtin.zeroCells]
  apply List.ext_getElem
  ·simp
  ·intro i h1 h2
   simp at h2
   simp only [List.getElem_map,List.getElem_range,Nat.mod_eq_of_lt h2]
   exact getElem!_pos z.cells i h2
 have hst:=run_storeCells_cells (P:=P) b o z.cells.toList 0 w (by simpa [hz] using hc) (by simpa [hz] using hf) (by simpa using h1)
 simp only [Nat.add_zero] at hst
 simp [Builtin.clear_,run_underlying ht,hv,hzc,hst]
theorem zmi (g cap n i:Nat) (cur:Array Value) (w:World) (hw:w.heap[g]?=some (.cells cur 84 (0,0))) (hsz:cur.size=cap*16) (hn:n<=cap) (hcm:cap<=maxLen) (hi:i < n) (h1:∀ u ∈ cur.toList.take (n*16),u.oneCell'=true) :
  Calls Tryz.prog 133 #[.slice (some ⟨g,0,none⟩) n cap,.int .i64 i,.int .i64 ((i:Int)+1)] w λe w'=>e=.returned (.slice (some ⟨g,0,none⟩) (n - 1) cap)/\w.grownBy w' (some g) /\
   ∃ cur' zc,w'.heap[g]?=some (.cells cur' 84 (0,0))/\cur'.size=cap*16/\zhg zc=some zsl.cells/\cur'.toList.take (n*16)=cur.toList.take (i*16)++(cur.toList.take (n*16)).drop ((i+1)*16)++zc:=by
 obtain ⟨i0,z,hi0,hz0,hs0,hby,hzs,hz1,hzv⟩:∃ i z,Tryz.prog.info? 84=some i/\i.zero=some z/\i.size=16/\i.bytes=216/\z.cells.size=16/\(∀ u ∈ z.cells.toList,u.oneCell'=true)/\zhg z.cells.toList=some zsl.cells:=⟨_,_,rfl,rfl,rfl,rfl,rfl,by decide,rfl⟩
 obtain ⟨news,hnews⟩:∃ news,news=(cur.toList.take (n*16)).drop ((i+1)*16):=⟨_,rfl⟩
 have hlen:news.length=(n - (i+1))*16:=by rw [hnews];simp [hsz];omega
 have hget:∀ t u,news[t]?=some u->cur[(i+1)*16+t]?=some u:=λt u h=>by
  rw [hnews,List.getElem?_drop,List.getElem?_take] at h
  split at h
  ·simpa using h
  ·cases h
 obtain ⟨A,hA,hsrc⟩:∃ A:Addr,(if cap=i+1 then (some ⟨g,0,none⟩:Option Addr) else some ⟨g,(i+1)*16,none⟩)=some A/\Hid (∀ t u,news[t]?=some u->w.drew.cell? (A.add t)=some u):=by
  by_cases h:cap=i+1
  ·refine ⟨⟨g,0,none⟩,by simp [h],λt u hu=>?_⟩
   have h0:news.length=0:=by rw [hlen];omega
   rw [List.length_eq_zero_iff.1 h0] at hu
   simp at hu
  ·refine ⟨⟨g,(i+1)*16,none⟩,by simp [h],λt u hu=>?_⟩
   rw [Go.Addr.add_lit]
   show w.cell? _=_
   simp only [World.cell?,hw]
   simpa using hget t u hu
 have s1:Hid (news.length=(n - (i+1))*16):=hlen
 have s2:Hid (∀ u ∈ news,u.oneCell'=true):=λu hu=>h1 u (by rw [hnews] at hu;exact List.mem_of_mem_drop hu)
 have hcell:∀ (W:World) (c:Array Value) (j:Nat),W.heap[g]?=some (.cells c 84 (0,0))->j < c.size->(W.cell? ⟨g,j,none⟩).isSome=true/\W.frozen? ⟨g,j,none⟩=false:=λW c j hW hj=>by
  constructor
  ·simp [World.cell?,hW,hj]
  ·simp [World.frozen?,hW]
 have s3:Hid (∀ t,t < news.length->(w.drew.cell? ⟨g,0+i*16+t,none⟩).isSome=true/\w.drew.frozen? ⟨g,0+i*16+t,none⟩=false):=by
  intro t ht
  rw [hlen] at ht
  exact hcell w.drew cur _ hw (by omega)
 obtain ⟨cur1,e1,e2,e3,e4⟩:=zcn g news (0+i*16) w.drew cur hw (by rw [hlen,hsz];omega)
 obtain ⟨W1,hW1⟩:∃ W1,W1=w.drew.setCells g (0+i*16) news:=⟨_,rfl⟩
 rw [<-hW1] at e1 e4
 have hm:i+(n - (i+1))=n - 1:=by omega
 obtain ⟨zc,hzc⟩:∃ zc,zc=z.cells.toList:=⟨_,rfl⟩
 have hzl:zc.length=16:=by rw [hzc];simpa using hzs
 have hcl:∀ ty,(Builtin.clear_ #[34] ty #[.slice (some ⟨g,(n - 1)*16,none⟩) (n - (n - 1)) (cap - (n - 1))]).run Tryz.prog W1=.ok (.tuple #[]) (W1.setCells g ((n - 1)*16) zc):=λty=>by
  rw [hzc]
  rw [show n - (n - 1)=1 by omega]
  exact zmq W1 34 84 ty z 16 Tryz.underlying34 (λw=>by simp [zeroValue,typeInfo,hi0,hz0]) hzs hz1 g _ _ (by omega) (λj hj=>(hcell W1 cur1 _ e1 (by rw [e2];omega)).1) (λj hj=>(hcell W1 cur1 _ e1 (by rw [e2];omega)).2)
 have hW:Hid (W1=w.drew.setCells g (0+i*16) news):=hW1
 clear hW1 hget
 go_enter Tryz.func133,Tryz.ntmps133
 have hic:i<=cap:=by omega
 have hjc:i+1<=cap:=by omega
 have hb1:(0:Int)<=(i:Int)+1:=by omega
 have hb2:(i:Int)+1<=(n:Int):=by omega
 go_wp2_with fail
 go_region_law (refine step_append_room rfl (.tmp 22) (.tmp 25) 34 rfl 84 i0 16 Tryz.underlying34 hi0 hs0 g 0 i cap (by simp [Act.eval,Act.put]) A (n - (i+1)) (cap - (i+1)) news (by simp [Act.eval,Act.put]) s1.out hsrc.out s2.out (by omega) s3.out ?_;rw [<-hW.out])
 obtain ⟨cur2,f1,f2,f3,f4⟩:=zcn g zc ((n - 1)*16) W1 cur1 e1 (by rw [e2,hsz,hzl];omega)
 rw [<-hzc] at hzv
 clear hzc
 have hg12:w.grownBy (W1.setCells g ((n - 1)*16) zc) (some g):=⟨f4.os.trans e4.os,f4.tape.trans e4.tape,f4.output.trans e4.output,Nat.le_trans e4.size f4.size,λk hk hne=>(f4.block k (Nat.lt_of_lt_of_le hk e4.size) hne).trans (e4.block k hk hne)⟩
 go_wp2
 go_ret
 refine ⟨rfl,hg12,cur2,zc,f1,by rw [f2,e2,hsz],hzv,?_⟩
 have l1:(cur.toList.take (0+i*16)++news).length=(n - 1)*16:=by
  rw [List.length_append,List.length_take,hlen];simp [hsz];omega
 have l2:cur1.toList.take ((n - 1)*16)=cur.toList.take (0+i*16)++news:=by
  rw [e3,List.append_assoc,<-List.append_assoc,List.take_append_of_le_length (by rw [l1];exact Nat.le_refl _),List.take_of_length_le (by rw [l1];exact Nat.le_refl _)]
 have l3:(cur.toList.take (0+i*16)++news++zc).length=n*16:=by rw [List.length_append,l1,hzl];omega
 rw [f3,l2,List.take_append_of_le_length (by rw [l3];exact Nat.le_refl _),List.take_of_length_le (by rw [l3];exact Nat.le_refl _),hnews,Nat.zero_add]
theorem zjm {w:World} {B:Nat->Prop} {us:List Value} {ps:List PV} (h:Reps w B us ps) (k:Nat):Reps w B (us.take k) (ps.take k):=
 ⟨by simp [h.1],λj v p hv hp=>by
  rw [List.getElem?_take] at hv hp
  split at hv
  ·rename_i e;rw [if_pos e] at hp;exact h.2 j v p hv hp
  ·cases hv⟩
theorem zjn {w:World} {B:Nat->Prop} {us:List Value} {ps:List PV} (h:Reps w B us ps) (k:Nat):Reps w B (us.drop k) (ps.drop k):=
 ⟨by simp [h.1],λj v p hv hp=>by rw [List.getElem?_drop] at hv hp;exact h.2 _ v p hv hp⟩
theorem zcP {sz:Nat}:∀ {xs:List PV},(∀ x ∈ xs,x.cells.length=sz)->(xs.flatMap PV.cells).length=xs.length*sz
 | [],_=>by simp
 | x::r,h=>by
  rw [List.flatMap_cons,List.length_append,zcP (λy hy=>h y (by simp [hy])),h x (by simp),List.length_cons,Nat.add_mul];omega
theorem zjo {sz:Nat} {xs:List PV} (h:∀ x ∈ xs,x.cells.length=sz) (k:Nat) (hk:k<=xs.length):(xs.take k).flatMap PV.cells=(xs.flatMap PV.cells).take (k*sz):=by
 have e:xs.flatMap PV.cells=(xs.take k).flatMap PV.cells++(xs.drop k).flatMap PV.cells:=by rw [<-List.flatMap_append,List.take_append_drop]
 have hl:((xs.take k).flatMap PV.cells).length=k*sz:=by
  rw [zcP (λx hx=>h x (List.mem_of_mem_take hx)),List.length_take];congr 1;omega
 rw [e,<-hl,List.take_left]
theorem zjp {sz:Nat} {xs:List PV} (h:∀ x ∈ xs,x.cells.length=sz) (k:Nat) (hk:k<=xs.length):(xs.drop k).flatMap PV.cells=(xs.flatMap PV.cells).drop (k*sz):=by
 have e:xs.flatMap PV.cells=(xs.take k).flatMap PV.cells++(xs.drop k).flatMap PV.cells:=by rw [<-List.flatMap_append,List.take_append_drop]
 have hl:((xs.take k).flatMap PV.cells).length=k*sz:=by
  rw [zcP (λx hx=>h x (List.mem_of_mem_take hx)),List.length_take];congr 1;omega
 rw [e,<-hl,List.drop_left]
theorem zlb (xs:List PV) (i:Nat) (a0:Option Addr) (c0:Nat) (hi:i < xs.length) (h1:oneAll xs=true):Acts Tryz.prog 133 [.p (.rs a0 xs.length c0),.p (.i .i64 i),.p (.i .i64 ((i:Int)+1))] [(900,.hrow 84 16 xs a0 c0)] (.p (.rs a0 (xs.length - 1) c0)) [(900,.hrow 84 16 (xs.take i++xs.drop (i+1)++[zsl]) a0 c0)]:=by
 have hlen:(xs.take i++xs.drop (i+1)++[zsl]).length=xs.length:=by simp;omega
 refine ⟨⟨_,_,Tryz.func133,rfl,rfl⟩,λj o hj=>?_,λj o hj=>?_,λw C vs fr hlv hvs=>?_⟩
 ·obtain ⟨rfl,rfl⟩:=zr hj;exact ⟨trivial,rfl⟩
 ·obtain ⟨rfl,rfl⟩:=zr hj;exact ⟨_,zJ _ _,rfl,rfl⟩
 ·obtain ⟨⟨us,how,hus,hx,h0,_⟩,hc⟩:(∃ us,w.ownsRow 0 84 16 (C.cur 900) xs.length us/\Reps w C.B us (xs.flatMap PV.cells)/\(∀ x ∈ xs,x.cells.length=16)/\0 < 16/\True)/\C.cur 900=.slice a0 xs.length c0:=by
   obtain ⟨⟨us,k1,k2,k3,k4⟩,k5⟩:=fr.ob 900 _ (zJ _ _)
   exact ⟨⟨us,k1,k2,k3,k4,trivial⟩,k5⟩
  rcases how.2 with ⟨f1,f2⟩|⟨g,cap,cur,f1,f2,f3,f4,f5,f6,f7⟩
  ·omega
  rw [f1] at hc;injection hc with q1 q2 q3;subst q1;subst q3
  have hv:vs=[.slice (some ⟨g,0,none⟩) xs.length cap,.int .i64 i,.int .i64 ((i:Int)+1)]:=by
   match vs,hlv,hvs with
   | [v1,v2,v3],_,hvs=>
    have e1:=ze (hvs 0 v1 _ rfl rfl)
    have e2:=ze (hvs 1 v2 _ rfl rfl)
    have e3:=ze (hvs 2 v3 _ rfl rfl)
    cases e1;cases e2;cases e3;rfl
  have hone:=zbQ hus h1
  subst hv
  refine Calls.mono (zmi g cap xs.length i cur w f3 f6 f4 f5 hi (by rw [f7];exact hone)) ?_
  rintro ex w' ⟨rfl,hg,cur',zc,e1,e2,hzv,e3⟩
  rw [f7] at e3
  have hgb:blk C 900 (.hrow 84 16 xs (some ⟨g,0,none⟩) cap)=some g:=by simp [blk,f1,Value.ownBlock]
  have hgB:¬C.B g:=(fr.sep 900 _ g (zJ _ _) hgb).2
  have hkeep:∀ b,C.B b->w'.heap[b]?=w.heap[b]?:=λb hb=>hg.block b (fr.blt b hb) λe=>by injection e with e;subst e;exact hgB hb
  have hxs:∀ x ∈ xs.take i++xs.drop (i+1)++[zsl],x.cells.length=16:=λx hx'=>by
   rcases List.mem_append.1 hx' with hx'|hx'
   ·rcases List.mem_append.1 hx' with hx'|hx'
    ·exact hx x (List.mem_of_mem_take hx')
    ·exact hx x (List.mem_of_mem_drop hx')
   ·simp at hx';subst hx';rfl
  have htk:cur.toList.take (i*16)=us.take (i*16):=by
   rw [<-f7,List.take_take,Nat.min_eq_left (by omega)]
  have hr:Reps w' C.B (cur'.toList.take (xs.length*16)) ((xs.take i++xs.drop (i+1)++[zsl]).flatMap PV.cells):=by
   rw [e3,htk,List.flatMap_append,List.flatMap_append,zjo hx i (by omega),zjp hx (i+1) (by omega)]
   refine ((zjm hus _).append (zjn hus _)).append ?_ |>.mono (λ_ h => h) λb hb => hkeep b hb
   simp only [List.flatMap_cons,List.flatMap_nil,List.append_nil,PV.cells]
   exact zfn hzv w C.B
  refine ⟨_,C,rfl,{
   kx:=⟨hg.os,hg.tape,hg.output,hg.size,λb hb hm=>hg.block b hb λe=>by injection e with e;subst e;exact hm ⟨900,_,zJ _ _,hgb⟩⟩
   fr:={
    blt:=λb hb=>Nat.lt_of_lt_of_le (fr.blt b hb) hg.size
    ob:=λj o hj=>by
     obtain ⟨rfl,rfl⟩:=zr hj
     exact ⟨⟨_,⟨by rw [hr.1,zcP hxs],.inr ⟨g,cap,cur',by rw [f1,hlen],Nat.zero_le _,e1,by rw [hlen];exact f4,f5,e2,by rw [hlen]⟩⟩,hr,hxs,by omega⟩,by rw [f1,hlen]⟩
    objs:=λj o hj=>by obtain ⟨rfl,rfl⟩:=zr hj;trivial
    fz:=λj o hj=>by obtain ⟨rfl,rfl⟩:=zr hj;rfl
    sep:=λj o b hj hb=>by
     obtain ⟨rfl,rfl⟩:=zr hj
     have:=fr.sep 900 _ b (zJ _ _) hb
     exact ⟨Nat.lt_of_lt_of_le this.1 hg.size,this.2⟩
    dis:=λj j' o o' b hne hj hj' _ _=>by obtain ⟨rfl,_⟩:=zr hj;obtain ⟨rfl,_⟩:=zr hj';exact absurd rfl hne }
   b1:=λ_ h=>h
   b2:=λ_ h=>.inl h
   y:=rfl
   fol:=λj o hj=>by obtain ⟨rfl,rfl⟩:=zr hj;exact ⟨_,zJ _ _,rfl,rfl⟩
   tied:=λj o o' _ hj' hnh _=>by obtain ⟨rfl,rfl⟩:=zr hj';exact absurd rfl (hnh _ _ _ _ _)
   bk:=λj o b hj hb=>by obtain ⟨rfl,rfl⟩:=zr hj;exact .inl ⟨900,_,zJ _ _,hb⟩
   rp:=.p (.rs _ _ _)
   scr:=.p _ }⟩
theorem zsr (n:Nat) (h0:0 < n) (hb:n*32<=140737488355328):Acts Tryz.prog 221 [.p .nilsl,.p (.i .i64 n)] [] (.row 900 0) [(900,.row 91 3 [] false)]:=by
 refine ⟨⟨_,_,Tryz.func221,rfl,rfl⟩,λj o hj=>by simp [zk] at hj,λj o hj=>by simp [zk] at hj,λw C vs fr hlv hvs=>?_⟩
 have hv:vs=[.slice none 0 0,.int .i64 n]:=by
  match vs,hlv,hvs with
  | [v1,v2],_,hvs=>
   have e1:=ze (hvs 0 v1 _ rfl rfl)
   have e2:=ze (hvs 1 v2 _ rfl rfl)
   cases e1;cases e2;rfl
 subst hv
 refine Calls.mono (zrH n w h0 hb) ?_
 rintro ex w' ⟨cap,cs,rfl,rfl,hsz,_,hm⟩
 have hnew:(w.drew.alloc (.cells cs 91)).heap[w.heap.size]?=some (.cells cs 91 (0,0)):=heap_alloc_new w.drew _
 have hold:∀ b,b < w.heap.size->(w.drew.alloc (.cells cs 91)).heap[b]?=w.heap[b]?:=λb hb=>heap_alloc_old w.drew _ b hb
 have hsz2:(w.drew.alloc (.cells cs 91)).heap.size=w.heap.size+1:=by rw [World.size_alloc];rfl
 refine ⟨_,{ C with cur:=λ_=>.slice (some ⟨w.heap.size,0,none⟩) 0 cap },rfl,{
  kx:=⟨rfl,rfl,rfl,by omega,λb hb _=>hold b hb⟩
  fr:={
   blt:=λb hb=>by have:=fr.blt b hb;omega
   ob:=λj o hj=>by
    obtain ⟨rfl,rfl⟩:=zr hj
    exact ⟨[],⟨by simp,.inr ⟨w.heap.size,cap,cs,rfl,Nat.zero_le _,hnew,Nat.zero_le _,hm,hsz,by simp⟩⟩,.nil,λx hx=>by simp at hx,by omega⟩
   objs:=λj o hj=>by obtain ⟨rfl,rfl⟩:=zr hj;trivial
   fz:=λj o hj=>by obtain ⟨rfl,rfl⟩:=zr hj;rfl
   sep:=λj o b hj hb=>by
    obtain ⟨rfl,rfl⟩:=zr hj
    simp only [blk,Value.ownBlock,Option.some.injEq] at hb
    exact ⟨by omega,λh=>by have:=fr.blt b h;omega⟩
   dis:=λj j' o o' b hne hj hj' _ _=>by obtain ⟨rfl,_⟩:=zr hj;obtain ⟨rfl,_⟩:=zr hj';exact absurd rfl hne }
  b1:=λ_ h=>h
  b2:=λ_ h=>.inl h
  y:=rfl
  fol:=λj o hj=>by simp [zk] at hj
  tied:=λj o o' hj _ _ _=>by simp [zk] at hj
  bk:=λj o b hj hb=>by
   obtain ⟨rfl,rfl⟩:=zr hj
   simp only [blk,Value.ownBlock,Option.some.injEq] at hb
   exact .inr (by omega)
  rp:=zcf rfl
  scr:=.row (zJ _ _) (Nat.le_refl _) }⟩
theorem zxo (w:World):Calls Tryz.prog 221 #[.slice none 0 0,.int .i64 0] w λe w'=>e=.returned (.slice none 0 0)/\w'=w:=by
 go_enter Tryz.func221,Tryz.ntmps221
 go_wp2
 all_goals (go_ret;exact ⟨rfl,rfl⟩)
theorem zpd:Acts Tryz.prog 221 [.p .nilsl,.p (.i .i64 0)] [] (.p .nilsl) []:=by
 refine ⟨⟨_,_,Tryz.func221,rfl,rfl⟩,λj o hj=>by simp [zk] at hj,λj o hj=>by simp [zk] at hj,λw C vs fr hlv hvs=>?_⟩
 have hv:vs=[.slice none 0 0,.int .i64 0]:=by
  match vs,hlv,hvs with
  | [v1,v2],_,hvs=>
   have e1:=ze (hvs 0 v1 _ rfl rfl)
   have e2:=ze (hvs 1 v2 _ rfl rfl)
   cases e1;cases e2;rfl
 subst hv
 refine Calls.mono (zxo w) ?_
 rintro ex w' ⟨rfl,rfl⟩
 refine ⟨_,C,rfl,{
  kx:=⟨rfl,rfl,rfl,Nat.le_refl _,λb hb _=>rfl⟩
  fr:={
   blt:=fr.blt
   ob:=λj o hj=>by simp [zk] at hj
   objs:=λj o hj=>by simp [zk] at hj
   fz:=λj o hj=>by simp [zk] at hj
   sep:=λj o b hj hb=>by simp [zk] at hj
   dis:=λj j' o o' b hne hj hj' _ _=>by simp [zk] at hj }
  b1:=λ_ h=>h
  b2:=λ_ h=>.inl h
  y:=rfl
  fol:=λj o hj=>by simp [zk] at hj
  tied:=λj o o' hj _ _ _=>by simp [zk] at hj
  bk:=λj o b hj hb=>by simp [zk] at hj
  rp:=.p .nilsl
  scr:=.p _ }⟩
end Go.Proofs.YtijgimeokgbifaaGreat
