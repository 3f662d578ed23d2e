/-
  RunsMakes returns true for every input, and its arguments read afterwards as before. No condition.
-/
import Derived.Test.YtfedfekakecnfaaGreatRows
import Derived.Test.YtfedfekakecnfaaGreatM5
import Derived.Test.YtfedfekakecnfaaGreatM6
import Derived.Test.YtfedfekakecnfaaGreatM7
import Derived.Test.YtfedfekakecnfaaGreatM8
set_option linter.unusedSimpArgs false
set_option linter.unusedVariables false
namespace Go.Proofs.YtfedfekakecnfaaGreat
open Go.Am Go.ChangeShapes Go.WideShapes Go.ChangeAt Go.RowKit
set_option linter.unusedSimpArgs false
set_option linter.unusedVariables false
set_option maxRecDepth 100000
theorem own:ownKnob Tryz.prog.godebug=none:=by kernel_rfl
theorem ig:laidOutB Tryz.prog=true:=by kernel_rfl
theorem jq:mapsRowed Tryz.prog=true:=by kernel_rfl
theorem Za:PJ Tryz.prog=true:=by kernel_rfl
theorem JKt(os:Os)(g:os.Started)(H:Type)(enc:TypeId×Value->H):
  ReturnsInHanded {} Tryz.checked os 5 .any (Rows.runsMakesSpec.pre6 enc Tryz.prog Tryz.f5 Rows.runsMakesRow.domain false) (Rows.runsMakesSpec.post enc Tryz.prog Tryz.f5 false true false false):=by
 refine returnsInHanded_of_change (C:=Tryz.checked) own g (by kernel_rfl) Tryz.func5
  (ChangeSpec.witness6 (enc:=enc) (C:=Tryz.checked) false ⟨#[], #[.slice none 0 0],[]⟩ 8 (by kernel_rfl) (by kernel_rfl) (by kernel_rfl) (by kernel_rfl)) ?_
 intro W base args J Y D k z K _;have h: ∀(j:Nat) t v,Tryz.f5.params[j]?=some t->args[j]?=some v->Value.okWide Tryz.prog W .any base t v:=k;have E:=z;obtain⟨p,q,A,hV,rfl,U,S⟩:=z;have B:DataW.TrodAll enc Tryz.prog W 0 (λ_=>true) true Tryz.f5.params.toList args.toList J p:=A;rw[Tryz.params5]at B h;obtain⟨y,T,Z,Q,p0,V,I,rfl,rfl,L,M⟩:=trodAll_cons B;obtain⟨rfl,rfl,rfl⟩:=trodAll_nil M;obtain rfl:args= #[y]:=by cases args;simp_all
 obtain⟨R,O,F⟩:=JIs ig jq (n:=12) (by kernel_rfl) (h 0 22 y rfl rfl) L;obtain⟨x0,rfl,N⟩:=rdT 12 (.l (.i .u8)) 22 (by kernel_rfl) _ O;rw[JJr (lns []) (agg:=false) (by kernel_rfl) (λ_=>by first|rfl|contradiction) x0]at F;have run:=JKf Wk.1 (xs:=[yv false (.l (.i .u8)) x0]) (x:=x0) rfl (Wt N) rfl;refine(JF6 JL2 (f:=5) (vals:= #[y]) (w:=W) rfl (λi a v r G=>?_) run).mono λe W' ⟨P,o⟩=>?_
 match i with
 |0=>simp at r G;subst r G;exact F
 |i+1=>simp at r
 subst P;exact⟨_,rfl,JGU ig jq Za (by rw[Tryz.params5];decide+kernel) (by kernel_rfl) (tb:=4) (by kernel_rfl) rfl (λo=>by subst o;rfl) E o⟩
theorem JFG:Tryz.f5.params.all (Tryz.prog.readableRec ·)=true:=by kernel_rfl
theorem JHO:(Rows.runsMakesRow.inPlace==Tryz.prog.inPlace 5)=true:=by kernel_rfl
theorem Zx:(Rows.runsMakesRow.unfollowed==Tryz.prog.unfollowed 5)=true:=by kernel_rfl
theorem Zl:(Rows.runsMakesRow.recurses==Tryz.prog.recurses 5)=true:=by kernel_rfl
theorem JIt:(Rows.runsMakesRow.named==Tryz.prog.varsNamed 5)=true:=by kernel_rfl
theorem JKK:(Rows.runsMakesRow.plainKeys==Tryz.prog.plainKeys)=true:=by kernel_rfl
theorem JGM:joinedFacts Tryz.prog 5 Tryz.f5 Rows.runsMakesSpec Rows.runsMakesRow=true:=by
 unfold joinedFacts;rw[ig,jq,JFG,JHO,Zx,Zl,JIt,JKK]
 kernel_rfl
theorem Yw:Rows.runsMakesRow.holds Tryz.pinned (OpenSpec.ofChange Rows.runsMakesSpec):=
 OpenClaim.holds_of_wide 5 Tryz.f5 rfl rfl rfl rfl rfl rfl rfl ⟨rfl,rfl,rfl,rfl,rfl⟩ rfl rfl rfl rfl rfl (by kernel_rfl) Tryz.func5 JGM
  (of_decide_eq_true (by kernel_rfl)) (by unfold Func.isWrapper;first|(rw[if_pos (by decide+kernel)];kernel_rfl)|(rw[if_neg (by decide+kernel)];exact⟨rfl,rfl⟩))
  (λos e H enc _=>JKt os e H enc)
theorem runsMakes_proved:Rows.RunsMakesSaid:=Yw
end Go.Proofs.YtfedfekakecnfaaGreat
