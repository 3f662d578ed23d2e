/-
  RunsOrder returns true for every input, and its arguments read afterwards as before. No condition.
-/
import Derived.Test.YtfedfekakecnfaaGreatRows
import Derived.Test.YtfedfekakecnfaaGreatM5
import Derived.Test.YtfedfekakecnfaaGreatM6
import Derived.Test.YtfedfekakecnfaaGreatM7
import Derived.Test.YtfedfekakecnfaaGreatM8
set_option linter.unusedSimpArgs false
set_option linter.unusedVariables false
namespace Go.Proofs.YtfedfekakecnfaaGreat
open Go.Am Go.ChangeShapes Go.WideShapes Go.ChangeAt Go.RowKit
set_option linter.unusedSimpArgs false
set_option linter.unusedVariables false
set_option maxRecDepth 100000
theorem own:ownKnob Tryz.prog.godebug=none:=by kernel_rfl
theorem l7:laidOutB Tryz.prog=true:=by kernel_rfl
theorem mz:mapsRowed Tryz.prog=true:=by kernel_rfl
theorem JML:SN Tryz.prog=true:=by kernel_rfl
theorem JLw(os:Os)(g:os.Started)(H:Type)(enc:TypeId×Value->H):
  ReturnsInHanded {} Tryz.checked os 8 .any (Rows.runsOrderSpec.pre6 enc Tryz.prog Tryz.f8 Rows.runsOrderRow.domain false) (Rows.runsOrderSpec.post enc Tryz.prog Tryz.f8 false true false false):=by
 refine returnsInHanded_of_change (C:=Tryz.checked) own g (by kernel_rfl) Tryz.func8
  (ChangeSpec.witness6 (enc:=enc) (C:=Tryz.checked) false ⟨#[], #[.slice none 0 0],[]⟩ 8 (by kernel_rfl) (by kernel_rfl) (by kernel_rfl) (by kernel_rfl)) ?_
 intro W base args G U B k y I _;have h: ∀(j:Nat) t v,Tryz.f8.params[j]?=some t->args[j]?=some v->Value.okWide Tryz.prog W .any base t v:=k;have D:=y;obtain⟨p,q,z,Y,rfl,S,Q⟩:=y;have A:DataW.TrodAll enc Tryz.prog W 0 (λ_=>true) true Tryz.f8.params.toList args.toList G p:=z;rw[Tryz.params8]at A h;obtain⟨v0,R,V,O,p0,T,F,rfl,rfl,J,K⟩:=trodAll_cons A;obtain⟨rfl,rfl,rfl⟩:=trodAll_nil K;obtain rfl:args= #[v0]:=by cases args;simp_all
 obtain⟨P,M,z0⟩:=JJa l7 mz (n:=12) (by kernel_rfl) (h 0 22 v0 rfl rfl) J;obtain⟨x0,rfl,L⟩:=rdT 12 (.l (.i .u8)) 22 (by kernel_rfl) _ M;rw[JKh (lns []) (agg:=false) (by kernel_rfl) (λ_=>by first|rfl|contradiction) x0]at z0;have run:=JLg Yl.1 (xs:=[C2 false (.l (.i .u8)) x0]) (x:=x0) rfl (Ys L) rfl;refine(JFm JMa (f:=8) (vals:= #[v0]) (w:=W) rfl (λi a v r E=>?_) run).mono λe W' ⟨N,o⟩=>?_
 match i with
 |0=>simp at r E;subst r E;exact z0
 |i+1=>simp at r
 subst N;exact⟨_,rfl,JHi l7 mz JML (by rw[Tryz.params8];decide+kernel) (by kernel_rfl) (tb:=4) (by kernel_rfl) rfl (λo=>by subst o;rfl) D o⟩
theorem JG0:Tryz.f8.params.all (Tryz.prog.readableRec ·)=true:=by kernel_rfl
theorem JIq:(Rows.runsOrderRow.inPlace==Tryz.prog.inPlace 8)=true:=by kernel_rfl
theorem JN6:(Rows.runsOrderRow.unfollowed==Tryz.prog.unfollowed 8)=true:=by kernel_rfl
theorem JMw:(Rows.runsOrderRow.recurses==Tryz.prog.recurses 8)=true:=by kernel_rfl
theorem JJb:(Rows.runsOrderRow.named==Tryz.prog.varsNamed 8)=true:=by kernel_rfl
theorem JLT:(Rows.runsOrderRow.plainKeys==Tryz.prog.plainKeys)=true:=by kernel_rfl
theorem JHc:joinedFacts Tryz.prog 8 Tryz.f8 Rows.runsOrderSpec Rows.runsOrderRow=true:=by
 unfold joinedFacts;rw[l7,mz,JG0,JIq,JN6,JMw,JJb,JLT]
 kernel_rfl
theorem JNA:Rows.runsOrderRow.holds Tryz.pinned (OpenSpec.ofChange Rows.runsOrderSpec):=
 OpenClaim.holds_of_wide 8 Tryz.f8 rfl rfl rfl rfl rfl rfl rfl ⟨rfl,rfl,rfl,rfl,rfl⟩ rfl rfl rfl rfl rfl (by kernel_rfl) Tryz.func8 JHc
  (of_decide_eq_true (by kernel_rfl)) (by unfold Func.isWrapper;first|(rw[if_pos (by decide+kernel)];kernel_rfl)|(rw[if_neg (by decide+kernel)];exact⟨rfl,rfl⟩))
  (λos e H enc _=>JLw os e H enc)
theorem runsOrder_proved:Rows.RunsOrderSaid:=JNA
end Go.Proofs.YtfedfekakecnfaaGreat
