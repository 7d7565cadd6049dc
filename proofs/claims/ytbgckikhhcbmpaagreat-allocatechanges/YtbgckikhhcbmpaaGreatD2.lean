/- For all lists of limits and wishes, and every change, the statement AllocateChanges of chapter 6 returns true. No conditions. -/
import Derived.Test.YtbgckikhhcbmpaaGreatD1
set_option linter.all false
set_option maxHeartbeats 8000000
set_option maxRecDepth 100000
namespace Go.Proofs.YtbgckikhhcbmpaaGreat
open Go.RowKit Go.Proofs.Tryz Go.ChangeShapes Go.WideShapes Go.ChangeAt
def yb1:ycn prog 6 63=some (true,.sl true resT6::(ycw++[jT])):=by kernel_rfl
theorem yb7:(match prog.underlying 63 with
 | some (.struct fs)=>match fs.toList[0]? with
  | some f=>f.offset == 0 && f.type == 28
  | none=>false
 | _=>false)=true:=by kernel_rfl
def yb9 {p:PV} (h:yK prog 6 63 p):∃ R w x,p=chgP R w x/\R.length*32<=140737488355328:=by
 obtain ⟨⟨ag,c,l,hp,rfl,hl⟩,_,hb⟩:=h;rw [yb1] at hp;simp only [xaK,xcf] at hp;obtain ⟨rfl,rfl⟩:=hp;cases l with
 | nil=>exact absurd hl (by simp [FitAll])
 | cons q r=>
  obtain ⟨⟨xs,hq,hx⟩,g⟩:=hl;subst hq;obtain ⟨R,rfl⟩:=yZ (f:=Res.pv) (xs:=xs) λx h=>by
   obtain ⟨l,rfl,hf⟩:=hx x h;exact ycC hf
  have hR:R.length*32<=140737488355328:=by
   have hf:=yb7
   split at hf
   .rename_i fs hu
    split at hf
    .rename_i f hf0;rw [xau,beq_iff_eq,beq_iff_eq] at hf;have:=hb fs f 79 _ _ _ hu (xae hf0) (by rw [hf.2];exact ybC) rfl (by rw [hf.1];rfl)
     rw [ych,xaf] at this;unfold reachBytes at this;omega
    .cases hf
   .cases hf
  obtain ⟨v0,r0,e0,g0⟩:=yag g;obtain ⟨v1,r1,e1,g1⟩:=yag g0;obtain ⟨v2,r2,e2,g2⟩:=yag g1;obtain ⟨v3,r3,e3,g3⟩:=yag g2;obtain ⟨v4,r4,e4,g4⟩:=yag g3;obtain ⟨v5,r5,e5,g5⟩:=yag g4;obtain ⟨v6,r6,e6,g6⟩:=yj g5;obtain ⟨v7,r7,e7,g7⟩:=yj g6;obtain ⟨v8,r8,e8,g8⟩:=yj g7;obtain ⟨v9,r9,e9,g9⟩:=yj g8;obtain ⟨v10,r10,e10,g10⟩:=yj g9;obtain ⟨v11,r11,e11,g11⟩:=yj g10;obtain ⟨v12,r12,e12,g12⟩:=yj g11;obtain ⟨v13,r13,e13,g13⟩:=yj g12;obtain ⟨v14,r14,e14,g14⟩:=yj g13;obtain ⟨v15,r15,e15,g15⟩:=yj g14;obtain ⟨v16,r16,e16,g16⟩:=yj g15;obtain ⟨v17,r17,e17,g17⟩:=yj g16;obtain ⟨v18,r18,e18,g18⟩:=yj g17;have e:=yaK g18;subst e0 e1 e2 e3 e4 e5 e6 e7 e8 e9 e10 e11 e12 e13 e14 e15 e16 e17 e18 e;exact ⟨R,⟨⟨v0,v1,v2,v3,v4,v5,⟨v6,v7,v8⟩,v9,v10,v11,v12⟩,v13,v14,v15,v16,v17⟩,v18,rfl,hR⟩
def yaT (os:Os) (started:os.Started) (H:Type) (enc:TypeId × Value->H):ReturnsInHanded {} Tryz.checked os 5 .any (Rows.allocateChangesSpec.pre6 enc prog f5 Rows.allocateChangesRow.domain false) (Rows.allocateChangesSpec.post enc prog f5 false true false false):=by
 refine returnsInHanded_of_change_shaped (C:=Tryz.checked) own started (by kernel_rfl) func5
  (ChangeSpec.witness6 (enc:=enc) (C:=Tryz.checked) false ⟨#[],#[.slice none 0 0,.slice none 0 0,.agg #[.slice none 0 0,vzS,vzS,vzS,vzS,vzS,vzS,vzI,vzI,vzI,vzI,vzI,vzI,vzI,vzI,vzI,vzI,vzI,vzI,vzI]],[]⟩ 8 (by kernel_rfl) (by kernel_rfl) (by kernel_rfl) (by kernel_rfl)) ?_
 intro W base args ds gs before hval hW _ hsz _ _;refine yab (C:=Tryz.checked) (n:=6) (tb:=4) laid (by kernel_rfl) rfl (λH ds hd=>?_) (by kernel_rfl) und4 (by kernel_rfl) (λps hps=>?_) W base args ds gs before hval hW hsz
 .match ds,hd with
  | [_,_,_],_=>rfl
 .match ps,hps with
  | [a0,a1,a2],⟨h0,h1,h2,_⟩=>
   obtain ⟨l,rfl,hn⟩:=ybn h0;obtain ⟨L,rfl,hL⟩:=yb8 h1;obtain ⟨R,w,x,rfl,hR⟩:=yb9 h2;exact ybZ l L R w x hn hL hR
def ycV:(Rows.allocateChangesRow.inPlace == prog.inPlace 5)=true:=by kernel_rfl
def ycU:(Rows.allocateChangesRow.unfollowed == prog.unfollowed 5)=true:=by kernel_rfl
def ycT:(Rows.allocateChangesRow.recurses == prog.recurses 5)=true:=by kernel_rfl
def ycS:(Rows.allocateChangesRow.named == prog.varsNamed 5)=true:=by kernel_rfl
def ycR:Tryz.checked.prog.funcNamed Rows.allocateChangesRow.func=some 5:=by kernel_rfl
def ycQ:joinedFacts prog 5 f5 Rows.allocateChangesSpec Rows.allocateChangesRow=true:=
 ybl (by as_aux_lemma=>kernel_rfl) laid rowed (by as_aux_lemma=>kernel_rfl) ycV ycU ycT ycS (by as_aux_lemma=>kernel_rfl) (by as_aux_lemma=>kernel_rfl) (by as_aux_lemma=>kernel_rfl) (by as_aux_lemma=>kernel_rfl) (by as_aux_lemma=>kernel_rfl)
def ycP:f5.isInstance prog Rows.allocateChangesRow.origin Rows.allocateChangesRow.targs:=of_decide_eq_true (by kernel_rfl)
def ycO:f5.isWrapper prog Rows.allocateChangesRow.wrapper Rows.allocateChangesRow.mainSum:=by
 unfold Func.isWrapper;first|(rw [if_pos (by decide +kernel)];kernel_rfl)|(rw [if_neg (by decide +kernel)];exact ⟨rfl,rfl⟩)
def y3:Rows.allocateChangesRow.holds Tryz.pinned (OpenSpec.ofChange Rows.allocateChangesSpec):=
 OpenClaim.holds_of_wide 5 f5 rfl rfl rfl rfl rfl rfl rfl ⟨rfl,rfl,rfl,rfl,rfl⟩ rfl rfl rfl rfl rfl ycR func5 ycQ ycP ycO
  (λos started H enc _=>yaT os started H enc)
theorem changes6_proved:Rows.AllocateChangesSaid:=y3
