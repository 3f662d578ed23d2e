/-
  MergerunsSplits returns true for every input, and its arguments read afterwards as before. No condition.
-/
import Derived.Test.YthnapahopkopbaaGreatRows
import Derived.Test.YthnapahopkopbaaGreatM6
import Derived.Test.YthnapahopkopbaaGreatM7
import Derived.Test.YthnapahopkopbaaGreatM8
set_option linter.unusedSimpArgs false
set_option linter.unusedVariables false
namespace Go.Proofs.YthnapahopkopbaaGreat
open Go.Am Go.ChangeShapes Go.WideShapes Go.ChangeAt Go.RowKit
set_option linter.unusedSimpArgs false
set_option linter.unusedVariables false
set_option maxRecDepth 100000
theorem own:ownKnob Tryz.prog.godebug=none:=by kernel_rfl
theorem JFF:laidOutB Tryz.prog=true:=by kernel_rfl
theorem JyV:mapsRowed Tryz.prog=true:=by kernel_rfl
theorem JOa:Jbg Tryz.prog=true:=by kernel_rfl
theorem JNg(os:Os)(h:os.Started)(H:Type)(enc:TypeId×Value->H):
  ReturnsInHanded {} Tryz.checked os 4 .any (Rows.mergerunsSplitsSpec.pre6 enc Tryz.prog Tryz.f4 Rows.mergerunsSplitsRow.domain false) (Rows.mergerunsSplitsSpec.post enc Tryz.prog Tryz.f4 false true false false):=by
 refine returnsInHanded_of_change (C:=Tryz.checked) own h (by kernel_rfl) Tryz.func4
  (ChangeSpec.witness6 (enc:=enc) (C:=Tryz.checked) false ⟨#[], #[.slice none 0 0,.int .u8 0],[]⟩ 8 (by kernel_rfl) (by kernel_rfl) (by kernel_rfl) (by kernel_rfl)) ?_
 intro W base args L Z D k z M _;have g: ∀(j:Nat) t v,Tryz.f4.params[j]?=some t->args[j]?=some v->Value.okWide Tryz.prog W .any base t v:=k;have E:=z;obtain⟨p,q,A,hV,rfl,V,T⟩:=z;have B:DataW.TrodAll enc Tryz.prog W 0 (λ_=>true) true Tryz.f4.params.toList args.toList L p:=A;rw[Tryz.params4]at B g;obtain⟨y,U,d0,P,p0,Y,G,rfl,rfl,J,r0⟩:=trodAll_cons B;obtain⟨v1,O,d1,S,p1,q1,rfl,rfl,rfl,h1,I⟩:=trodAll_cons r0;obtain⟨rfl,rfl,rfl⟩:=trodAll_nil I;obtain rfl:args= #[y,v1]:=by cases args;simp_all
 obtain⟨Q,N,F⟩:=JF7 JFF JyV (n:=12) (by kernel_rfl) (g 0 22 y rfl rfl) J;obtain⟨o,rfl,w0⟩:=rdT 12 (.l (.i .u8)) 22 (by kernel_rfl) _ N;rw[JHP (lns []) (agg:=false) (by kernel_rfl) (λ_=>by first|rfl|contradiction) o]at F;obtain⟨R,K,z1⟩:=JF7 JFF JyV (n:=12) (by kernel_rfl) (g 1 5 v1 rfl rfl) h1;obtain⟨x1,rfl,w1⟩:=rdT 12 (.i .u8) 5 (by kernel_rfl) _ K;rw[JHP (lns []) (agg:=false) (by kernel_rfl) (λ_=>by first|rfl|contradiction) x1]at z1;have run:=JN2 (Jei JEH).1 (xs:=[JJp false (.l (.i .u8)) o,JJp false (.i .u8) x1]) (x:=(o,x1)) rfl (Jeg w0 w1) rfl;refine(JIH JMB (f:=4) (vals:= #[y,v1]) (w:=W) rfl (λi a v ha hv=>?_) run).mono λe W' ⟨he,r⟩=>?_
 ·match i with
  |0=>simp at ha hv;subst ha hv;exact F
  |1=>simp at ha hv;subst ha hv;exact z1
  |i+2=>simp at ha
 ·subst he;exact⟨_,rfl,JKc JFF JyV JOa (by rw[Tryz.params4];decide+kernel) (by kernel_rfl) (tb:=4) (by kernel_rfl) rfl (λr=>by subst r;rfl) E r⟩
theorem JJa:Tryz.f4.params.all (Tryz.prog.readableRec ·)=true:=by kernel_rfl
theorem JL6:(Rows.mergerunsSplitsRow.inPlace==Tryz.prog.inPlace 4)=true:=by kernel_rfl
theorem JOm:(Rows.mergerunsSplitsRow.unfollowed==Tryz.prog.unfollowed 4)=true:=by kernel_rfl
theorem JNX:(Rows.mergerunsSplitsRow.recurses==Tryz.prog.recurses 4)=true:=by kernel_rfl
theorem JLC:(Rows.mergerunsSplitsRow.named==Tryz.prog.varsNamed 4)=true:=by kernel_rfl
theorem JNv:(Rows.mergerunsSplitsRow.plainKeys==Tryz.prog.plainKeys)=true:=by kernel_rfl
theorem JK7:joinedFacts Tryz.prog 4 Tryz.f4 Rows.mergerunsSplitsSpec Rows.mergerunsSplitsRow=true:=by
 unfold joinedFacts;rw[JFF,JyV,JJa,JL6,JOm,JNX,JLC,JNv]
 kernel_rfl
theorem JOK:Rows.mergerunsSplitsRow.holds Tryz.pinned (OpenSpec.ofChange Rows.mergerunsSplitsSpec):=
 OpenClaim.holds_of_wide 4 Tryz.f4 rfl rfl rfl rfl rfl rfl rfl ⟨rfl,rfl,rfl,rfl,rfl⟩ rfl rfl rfl rfl rfl (by kernel_rfl) Tryz.func4 JK7
  (of_decide_eq_true (by kernel_rfl)) (by unfold Func.isWrapper;first|(rw[if_pos (by decide+kernel)];kernel_rfl)|(rw[if_neg (by decide+kernel)];exact⟨rfl,rfl⟩))
  (λos e H enc _=>JNg os e H enc)
theorem mergerunsSplits_proved:Rows.MergerunsSplitsSaid:=JOK
end Go.Proofs.YthnapahopkopbaaGreat
