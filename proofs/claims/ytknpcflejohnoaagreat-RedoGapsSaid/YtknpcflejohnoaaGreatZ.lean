/-
  RedoGaps returns true for every input, and its arguments read afterwards as before. No condition.
-/
import Derived.Test.YtknpcflejohnoaaGreatRows
import Derived.Test.YtknpcflejohnoaaGreatM5
import Derived.Test.YtknpcflejohnoaaGreatM6
import Derived.Test.YtknpcflejohnoaaGreatM7
import Derived.Test.YtknpcflejohnoaaGreatM8
set_option linter.unusedSimpArgs false
set_option linter.unusedVariables false
namespace Go.Proofs.YtknpcflejohnoaaGreat
open Go.Am Go.ChangeShapes Go.WideShapes Go.ChangeAt Go.RowKit
set_option linter.unusedSimpArgs false
set_option linter.unusedVariables false
set_option maxRecDepth 100000
theorem own:ownKnob Tryz.prog.godebug=none:=by kernel_rfl
theorem VN:laidOutB Tryz.prog=true:=by kernel_rfl
theorem OS:mapsRowed Tryz.prog=true:=by kernel_rfl
theorem JLk:SN Tryz.prog=true:=by kernel_rfl
theorem JK6(os:Os)(h:os.Started)(H:Type)(enc:TypeId×Value->H):
  ReturnsInHanded {} Tryz.checked os 3 .any (Rows.redoGapsSpec.pre6 enc Tryz.prog Tryz.f3 Rows.redoGapsRow.domain false) (Rows.redoGapsSpec.post enc Tryz.prog Tryz.f3 false true false false):=by
 refine returnsInHanded_of_change (C:=Tryz.checked) own h (by kernel_rfl) Tryz.func3
  (ChangeSpec.witness6 (enc:=enc) (C:=Tryz.checked) false ⟨#[], #[.slice none 0 0,.int .u8 0],[]⟩ 8 (by kernel_rfl) (by kernel_rfl) (by kernel_rfl) (by kernel_rfl)) ?_
 intro W base args N gs F o B O _;have g: ∀(j:Nat) t v,Tryz.f3.params[j]?=some t->args[j]?=some v->Value.okWide Tryz.prog W .any base t v:=o;have G:=B;obtain⟨p,q,D,hV,rfl,a3,a1⟩:=B;have E:DataW.TrodAll enc Tryz.prog W 0 (λ_=>true) true Tryz.f3.params.toList args.toList N p:=D;rw[Tryz.params3]at E g;obtain⟨v0,a2,d0,V,p0,q0,K,rfl,rfl,h0,R⟩:=trodAll_cons E;obtain⟨v1,U,d1,a0,p1,q1,rfl,rfl,rfl,h1,L⟩:=trodAll_cons R;obtain⟨rfl,rfl,rfl⟩:=trodAll_nil L;obtain rfl:args= #[v0,v1]:=by cases args;simp_all
 obtain⟨Y,P,J⟩:=p9 VN OS (n:=12) (by kernel_rfl) (g 0 22 v0 rfl rfl) h0;obtain⟨y,rfl,S⟩:=rdT 12 (.l (.i .u8)) 22 (by kernel_rfl) _ P;rw[D5 (lns []) (agg:=false) (by kernel_rfl) (λ_=>by first|rfl|contradiction) y]at J;obtain⟨Z,M,I⟩:=p9 VN OS (n:=12) (by kernel_rfl) (g 1 5 v1 rfl rfl) h1;obtain⟨A,rfl,Q⟩:=rdT 12 (.i .u8) 5 (by kernel_rfl) _ M;rw[D5 (lns []) (agg:=false) (by kernel_rfl) (λ_=>by first|rfl|contradiction) A]at I;have run:=JJO X1.1 (xs:=[lh false (.l (.i .u8)) y,lh false (.i .u8) A]) (x:=(y,A)) rfl (X3 S Q) rfl;refine(JEf JKF (f:=3) (vals:= #[v0,v1]) (w:=W) rfl (λi a v k r=>?_) run).mono λe W' ⟨T,z⟩=>?_
 match i with
 |0=>simp at k r;subst k r;exact J
 |1=>simp at k r;subst k r;exact I
 |i+2=>simp at k
 subst T;exact⟨_,rfl,JG9 VN OS JLk (by rw[Tryz.params3];decide+kernel) (by kernel_rfl) (tb:=4) (by kernel_rfl) rfl (λz=>by subst z;rfl) G z⟩
theorem JEV:Tryz.f3.params.all (Tryz.prog.readableRec ·)=true:=by kernel_rfl
theorem JHe:(Rows.redoGapsRow.inPlace==Tryz.prog.inPlace 3)=true:=by kernel_rfl
theorem JLI:(Rows.redoGapsRow.unfollowed==Tryz.prog.unfollowed 3)=true:=by kernel_rfl
theorem JKY:(Rows.redoGapsRow.recurses==Tryz.prog.recurses 3)=true:=by kernel_rfl
theorem JHX:(Rows.redoGapsRow.named==Tryz.prog.varsNamed 3)=true:=by kernel_rfl
theorem JKs:(Rows.redoGapsRow.plainKeys==Tryz.prog.plainKeys)=true:=by kernel_rfl
theorem JFZ:joinedFacts Tryz.prog 3 Tryz.f3 Rows.redoGapsSpec Rows.redoGapsRow=true:=by
 unfold joinedFacts;rw[VN,OS,JEV,JHe,JLI,JKY,JHX,JKs]
 kernel_rfl
theorem Zo:Rows.redoGapsRow.holds Tryz.pinned (OpenSpec.ofChange Rows.redoGapsSpec):=
 OpenClaim.holds_of_wide 3 Tryz.f3 rfl rfl rfl rfl rfl rfl rfl ⟨rfl,rfl,rfl,rfl,rfl⟩ rfl rfl rfl rfl rfl (by kernel_rfl) Tryz.func3 JFZ
  (of_decide_eq_true (by kernel_rfl)) (by unfold Func.isWrapper;first|(rw[if_pos (by decide+kernel)];kernel_rfl)|(rw[if_neg (by decide+kernel)];exact⟨rfl,rfl⟩))
  (λos e H enc _=>JK6 os e H enc)
theorem redoGaps_proved:Rows.RedoGapsSaid:=Zo
end Go.Proofs.YtknpcflejohnoaaGreat
