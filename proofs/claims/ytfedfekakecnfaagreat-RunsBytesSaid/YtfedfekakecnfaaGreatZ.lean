/-
  RunsBytes returns true for every input, and its arguments read afterwards as before. No condition.
-/
import Derived.Test.YtfedfekakecnfaaGreatRows
import Derived.Test.YtfedfekakecnfaaGreatM6
import Derived.Test.YtfedfekakecnfaaGreatM7
import Derived.Test.YtfedfekakecnfaaGreatM8
set_option linter.unusedSimpArgs false
set_option linter.unusedVariables false
namespace Go.Proofs.YtfedfekakecnfaaGreat
open Go.Am Go.ChangeShapes Go.WideShapes Go.ChangeAt Go.RowKit
set_option linter.unusedSimpArgs false
set_option linter.unusedVariables false
set_option maxRecDepth 100000
theorem own:ownKnob Tryz.prog.godebug=none:=by kernel_rfl
theorem SO:laidOutB Tryz.prog=true:=by kernel_rfl
theorem LG:mapsRowed Tryz.prog=true:=by kernel_rfl
theorem Zy:PT Tryz.prog=true:=by kernel_rfl
theorem JK7(os:Os)(h:os.Started)(H:Type)(enc:TypeId×Value->H):
  ReturnsInHanded {} Tryz.checked os 3 .any (Rows.runsBytesSpec.pre6 enc Tryz.prog Tryz.f3 Rows.runsBytesRow.domain false) (Rows.runsBytesSpec.post enc Tryz.prog Tryz.f3 false true false false):=by
 refine returnsInHanded_of_change (C:=Tryz.checked) own h (by kernel_rfl) Tryz.func3
  (ChangeSpec.witness6 (enc:=enc) (C:=Tryz.checked) false ⟨#[], #[.slice none 0 0,.string ⟨#[]⟩],[]⟩ 8 (by kernel_rfl) (by kernel_rfl) (by kernel_rfl) (by kernel_rfl)) ?_
 intro W base args N gs E o B O _;have g: ∀(j:Nat) t v,Tryz.f3.params[j]?=some t->args[j]?=some v->Value.okWide Tryz.prog W .any base t v:=o;have F:=B;obtain⟨p,q,D,hV,rfl,a3,a1⟩:=B;have hA:DataW.TrodAll enc Tryz.prog W 0 (λ_=>true) true Tryz.f3.params.toList args.toList N p:=D;rw[Tryz.params3]at hA g;obtain⟨A,a2,d0,V,p0,q0,J,rfl,rfl,L,R⟩:=trodAll_cons hA;obtain⟨z,U,d1,a0,p1,q1,rfl,rfl,rfl,h1,K⟩:=trodAll_cons R;obtain⟨rfl,rfl,rfl⟩:=trodAll_nil K;obtain rfl:args= #[A,z]:=by cases args;simp_all
 obtain⟨Y,P,I⟩:=B2 SO LG (n:=12) (by kernel_rfl) (g 0 22 A rfl rfl) L;obtain⟨x0,rfl,S⟩:=rdT 12 (.l (.i .u8)) 22 (by kernel_rfl) _ P;rw[Ba (lns []) (agg:=false) (by kernel_rfl) (λ_=>by first|rfl|contradiction) x0]at I;obtain⟨Z,M,G⟩:=B2 SO LG (n:=12) (by kernel_rfl) (g 1 9 z rfl rfl) h1;obtain⟨X,rfl,Q⟩:=rdT 12 .s 9 (by kernel_rfl) _ M;rw[Ba (lns []) (agg:=false) (by kernel_rfl) (λ_=>by first|rfl|contradiction) X]at G;have run:=JJN Wt.1 (xs:=[gv false (.l (.i .u8)) x0,gv false .s X]) (x:=(x0,X)) rfl (W9 S Q) rfl;refine(JEw JKI (f:=3) (vals:= #[A,z]) (w:=W) rfl (λi a v k r=>?_) run).mono λe W' ⟨T,y⟩=>?_
 match i with
 |0=>simp at k r;subst k r;exact I
 |1=>simp at k r;subst k r;exact G
 |i+2=>simp at k
 subst T;exact⟨_,rfl,JGq SO LG Zy (by rw[Tryz.params3];decide+kernel) (by kernel_rfl) (tb:=4) (by kernel_rfl) rfl (λy=>by subst y;rfl) F y⟩
theorem JFb:Tryz.f3.params.all (Tryz.prog.readableRec ·)=true:=by kernel_rfl
theorem JHr:(Rows.runsBytesRow.inPlace==Tryz.prog.inPlace 3)=true:=by kernel_rfl
theorem Zj:(Rows.runsBytesRow.unfollowed==Tryz.prog.unfollowed 3)=true:=by kernel_rfl
theorem JL1:(Rows.runsBytesRow.recurses==Tryz.prog.recurses 3)=true:=by kernel_rfl
theorem JI9:(Rows.runsBytesRow.named==Tryz.prog.varsNamed 3)=true:=by kernel_rfl
theorem JKr:(Rows.runsBytesRow.plainKeys==Tryz.prog.plainKeys)=true:=by kernel_rfl
theorem JGk:joinedFacts Tryz.prog 3 Tryz.f3 Rows.runsBytesSpec Rows.runsBytesRow=true:=by
 unfold joinedFacts;rw[SO,LG,JFb,JHr,Zj,JL1,JI9,JKr]
 kernel_rfl
theorem Z6:Rows.runsBytesRow.holds Tryz.pinned (OpenSpec.ofChange Rows.runsBytesSpec):=
 OpenClaim.holds_of_wide 3 Tryz.f3 rfl rfl rfl rfl rfl rfl rfl ⟨rfl,rfl,rfl,rfl,rfl⟩ rfl rfl rfl rfl rfl (by kernel_rfl) Tryz.func3 JGk
  (of_decide_eq_true (by kernel_rfl)) (by unfold Func.isWrapper;first|(rw[if_pos (by decide+kernel)];kernel_rfl)|(rw[if_neg (by decide+kernel)];exact⟨rfl,rfl⟩))
  (λos e H enc _=>JK7 os e H enc)
theorem runsBytes_proved:Rows.RunsBytesSaid:=Z6
end Go.Proofs.YtfedfekakecnfaaGreat
