/- For all lists of limits and wishes, and every wish, the statement AllocateGrows of chapter 6 returns true. No conditions. -/
import Derived.Test.YtbgckikhhcbmpaaGreatH1
set_option linter.all false
set_option maxHeartbeats 8000000
set_option maxRecDepth 100000
namespace Go.Proofs.YtbgckikhhcbmpaaGreat
open Go.RowKit Go.Proofs.Tryz Go.ChangeShapes Go.WideShapes Go.ChangeAt
def ybo:ybJ prog 6 61=some (true,ybS):=by kernel_rfl
def ybv {p:PV} (h:yJ prog 6 61 p):∃ w:Wis,p=w.pv:=by
 obtain ⟨⟨ag,c,l,hp,rfl,hl⟩,_⟩:=h;rw [ybo] at hp;simp only [xaK,xcf] at hp;obtain ⟨rfl,rfl⟩:=hp;obtain ⟨w,hw⟩:=yaD hl;exact ⟨w,hw⟩
def yay (os:Os) (started:os.Started) (H:Type) (enc:TypeId × Value->H):ReturnsInHanded {} Tryz.checked os 6 .any (Rows.allocateGrowsSpec.pre6 enc prog f6 Rows.allocateGrowsRow.domain false) (Rows.allocateGrowsSpec.post enc prog f6 false true false false):=by
 refine returnsInHanded_of_change_shaped (C:=Tryz.checked) own started (by kernel_rfl) func6
  (ChangeSpec.witness6 (enc:=enc) (C:=Tryz.checked) false ⟨#[],#[.slice none 0 0,.slice none 0 0,.agg #[vzS,vzS,vzS,vzS,vzS,vzS,vzI,vzI,vzI,vzI,vzI,vzI,vzI,vzI,vzI,vzI,vzI,vzI]],[]⟩ 8 (by kernel_rfl) (by kernel_rfl) (by kernel_rfl) (by kernel_rfl)) ?_
 intro W base args ds gs before hval hW _ hsz _ _;refine y5 (C:=Tryz.checked) (n:=6) (tb:=4) laid (by kernel_rfl) rfl (λH ds hd=>?_) (by kernel_rfl) und4 (by kernel_rfl) (λps hps=>?_) W base args ds gs before hval hW hsz
 .match ds,hd with
  | [_,_,_],_=>rfl
 .match ps,hps with
  | [a0,a1,a2],⟨h0,h1,h2,_⟩=>
   obtain ⟨l,rfl,hn⟩:=ya0 h0;obtain ⟨L,rfl,hL⟩:=ybu h1;obtain ⟨w,rfl⟩:=ybv h2;exact ybk l L w hn hL
def ych:(Rows.allocateGrowsRow.inPlace == prog.inPlace 6)=true:=by kernel_rfl
def ycg:(Rows.allocateGrowsRow.unfollowed == prog.unfollowed 6)=true:=by kernel_rfl
def ycf:(Rows.allocateGrowsRow.recurses == prog.recurses 6)=true:=by kernel_rfl
def yce:(Rows.allocateGrowsRow.named == prog.varsNamed 6)=true:=by kernel_rfl
def ycd:Tryz.checked.prog.funcNamed Rows.allocateGrowsRow.func=some 6:=by kernel_rfl
def ycc:joinedFacts prog 6 f6 Rows.allocateGrowsSpec Rows.allocateGrowsRow=true:=
 yaX (by as_aux_lemma=>kernel_rfl) laid rowed (by as_aux_lemma=>kernel_rfl) ych ycg ycf yce (by as_aux_lemma=>kernel_rfl) (by as_aux_lemma=>kernel_rfl) (by as_aux_lemma=>kernel_rfl) (by as_aux_lemma=>kernel_rfl) (by as_aux_lemma=>kernel_rfl)
def ycb:f6.isInstance prog Rows.allocateGrowsRow.origin Rows.allocateGrowsRow.targs:=of_decide_eq_true (by kernel_rfl)
def yca:f6.isWrapper prog Rows.allocateGrowsRow.wrapper Rows.allocateGrowsRow.mainSum:=by
 unfold Func.isWrapper;first|(rw [if_pos (by decide +kernel)];kernel_rfl)|(rw [if_neg (by decide +kernel)];exact ⟨rfl,rfl⟩)
def yae:Rows.allocateGrowsRow.holds Tryz.pinned (OpenSpec.ofChange Rows.allocateGrowsSpec):=
 OpenClaim.holds_of_wide 6 f6 rfl rfl rfl rfl rfl rfl rfl ⟨rfl,rfl,rfl,rfl,rfl⟩ rfl rfl rfl rfl rfl ycd func6 ycc ycb yca
  (λos started H enc _=>yay os started H enc)
theorem grows6_proved:Rows.AllocateGrowsSaid:=yae
