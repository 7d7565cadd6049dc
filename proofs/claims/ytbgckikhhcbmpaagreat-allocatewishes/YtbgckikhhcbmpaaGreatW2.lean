/- For every list of wishes and every number the statement AllocateWishes of chapter 6 returns true. No conditions. -/
import Derived.Test.YtbgckikhhcbmpaaGreatW1
set_option linter.all false
set_option maxHeartbeats 8000000
set_option maxRecDepth 100000
namespace Go.Proofs.YtbgckikhhcbmpaaGreat
open Go.RowKit Go.Proofs.Tryz Go.ChangeShapes Go.WideShapes Go.ChangeAt
def parI6:yaU prog 6 3=some (false,[jT]):=by kernel_rfl
def fit_i6 {p:PV} (h:yt prog 6 3 p):∃ n:Int,p=.i .i64 n:=by
 obtain ⟨⟨ag,c,l,hp,rfl,hl⟩,hb⟩:=h;rw [parI6] at hp;simp only [xaD,xcl] at hp;obtain ⟨rfl,rfl⟩:=hp
 match l,hl with
 | [_],⟨⟨a,ha⟩,_⟩=>subst ha;exact ⟨a,rfl⟩
def yP (os:Os) (started:os.Started) (H:Type) (enc:TypeId × Value->H):ReturnsInHanded {} Tryz.checked os 9 .any (Rows.allocateWishesSpec.pre6 enc prog f9 Rows.allocateWishesRow.domain false) (Rows.allocateWishesSpec.post enc prog f9 false true false false):=by
 refine returnsInHanded_of_change_shaped (C:=Tryz.checked) own started (by kernel_rfl) func9
  (ChangeSpec.witness6 (enc:=enc) (C:=Tryz.checked) false ⟨#[],#[.slice none 0 0,.int .i64 0],[]⟩ 8 (by kernel_rfl) (by kernel_rfl) (by kernel_rfl) (by kernel_rfl)) ?_
 intro W base args ds gs before hval hW _ hsz _ _;refine yz (C:=Tryz.checked) (n:=6) (tb:=4) laid (by kernel_rfl) rfl (λH ds hd=>?_) (by kernel_rfl) und4 (by kernel_rfl) (λps hps=>?_) W base args ds gs before hval hW hsz
 .match ds,hd with
  | [_,_],_=>rfl
 .match ps,hps with
  | [a0,a1],⟨h0,h1,_⟩=>
   obtain ⟨L,rfl,hL⟩:=yaz h0;obtain ⟨k,rfl⟩:=fit_i6 h1;exact yav L k hL
def ya5:(Rows.allocateWishesRow.inPlace == prog.inPlace 9)=true:=by kernel_rfl
def ya4:(Rows.allocateWishesRow.unfollowed == prog.unfollowed 9)=true:=by kernel_rfl
def ya3:(Rows.allocateWishesRow.recurses == prog.recurses 9)=true:=by kernel_rfl
def ya2:(Rows.allocateWishesRow.named == prog.varsNamed 9)=true:=by kernel_rfl
def ya1:Tryz.checked.prog.funcNamed Rows.allocateWishesRow.func=some 9:=by kernel_rfl
def ya0:joinedFacts prog 9 f9 Rows.allocateWishesSpec Rows.allocateWishesRow=true:=
 yaa (by as_aux_lemma=>kernel_rfl) laid rowed (by as_aux_lemma=>kernel_rfl) ya5 ya4 ya3 ya2 (by as_aux_lemma=>kernel_rfl) (by as_aux_lemma=>kernel_rfl) (by as_aux_lemma=>kernel_rfl) (by as_aux_lemma=>kernel_rfl) (by as_aux_lemma=>kernel_rfl)
def yaZ:f9.isInstance prog Rows.allocateWishesRow.origin Rows.allocateWishesRow.targs:=of_decide_eq_true (by kernel_rfl)
def yaY:f9.isWrapper prog Rows.allocateWishesRow.wrapper Rows.allocateWishesRow.mainSum:=by
 unfold Func.isWrapper;first|(rw [if_pos (by decide +kernel)];kernel_rfl)|(rw [if_neg (by decide +kernel)];exact ⟨rfl,rfl⟩)
def yx:Rows.allocateWishesRow.holds Tryz.pinned (OpenSpec.ofChange Rows.allocateWishesSpec):=
 OpenClaim.holds_of_wide 9 f9 rfl rfl rfl rfl rfl rfl rfl ⟨rfl,rfl,rfl,rfl,rfl⟩ rfl rfl rfl rfl rfl ya1 func9 ya0 yaZ yaY
  (λos started H enc _=>yP os started H enc)
theorem wishes6_proved:Rows.AllocateWishesSaid:=yx
