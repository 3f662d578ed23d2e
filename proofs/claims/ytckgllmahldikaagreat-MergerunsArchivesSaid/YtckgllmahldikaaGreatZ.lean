/-
  MergerunsArchives returns true for every input, and gc arguments read afterwards as before. No condition.
-/
import Derived.Test.YtckgllmahldikaaGreatRows
import Derived.Test.YtckgllmahldikaaGreatM4
import Derived.Test.YtckgllmahldikaaGreatM6
import Derived.Test.YtckgllmahldikaaGreatM7
import Derived.Test.YtckgllmahldikaaGreatM8
set_option linter.unusedSimpArgs false
set_option linter.unusedVariables false
namespace Go.Proofs.YtckgllmahldikaaGreat
open Go.Am Go.ChangeShapes Go.WideShapes Go.ChangeAt Go.RowKit
set_option linter.unusedSimpArgs false
set_option linter.unusedVariables false
set_option maxRecDepth 100000
theorem own:ownKnob Tryz.prog.godebug=none:=by kernel_rfl
theorem ZL:laidOutB Tryz.prog=true:=by kernel_rfl
theorem QX:mapsRowed Tryz.prog=true:=by kernel_rfl
theorem JR0:VA Tryz.prog=true:=by kernel_rfl
theorem JPD(os:Os)(h:os.Started)(H:Type)(enc:TypeId×Value->H):
  ReturnsInHanded {} Tryz.checked os 3 .any (Rows.mergerunsArchivesSpec.pre6 enc Tryz.prog Tryz.f3 Rows.mergerunsArchivesRow.domain false) (Rows.mergerunsArchivesSpec.post enc Tryz.prog Tryz.f3 false true false false):=by
 refine returnsInHanded_of_change (C:=Tryz.checked) own h (by kernel_rfl) Tryz.func3
  (ChangeSpec.witness6 (enc:=enc) (C:=Tryz.checked) false ⟨#[], #[.slice none 0 0,.int .i64 0],[]⟩ 8 (by kernel_rfl) (by kernel_rfl) (by kernel_rfl) (by kernel_rfl)) ?_
 intro W base args M gs E o B N _;have g: ∀(j:Nat) t v,Tryz.f3.params[j]?=some t->args[j]?=some v->Value.okWide Tryz.prog W .any base t v:=o;have F:=B;obtain⟨p,q,D,hV,rfl,a3,a1⟩:=B;have hA:DataW.TrodAll enc Tryz.prog W 0 (λ_=>true) true Tryz.f3.params.toList args.toList M p:=D;rw[Tryz.params3]at hA g;obtain⟨A,a2,d0,V,p0,q0,J,rfl,rfl,P,Q⟩:=trodAll_cons hA;obtain⟨z,U,d1,a0,p1,q1,rfl,rfl,rfl,h1,K⟩:=trodAll_cons Q;obtain⟨rfl,rfl,rfl⟩:=trodAll_nil K;obtain rfl:args= #[A,z]:=by cases args;simp_all
 obtain⟨Y,S,I⟩:=M8 ZL QX (n:=12) (by kernel_rfl) (g 0 22 A rfl rfl) P;obtain⟨x0,rfl,R⟩:=rdT 12 (.l (.i .u8)) 22 (by kernel_rfl) _ S;rw[Kr (lns []) (agg:=false) (by kernel_rfl) (λ_=>by first|rfl|contradiction) x0]at I;obtain⟨Z,L,G⟩:=M8 ZL QX (n:=12) (by kernel_rfl) (g 1 3 z rfl rfl) h1;obtain⟨X,rfl,O⟩:=rdT 12 (.i .i64) 3 (by kernel_rfl) _ L;rw[Kr (lns []) (agg:=false) (by kernel_rfl) (λ_=>by first|rfl|contradiction) X]at G;have run:=JPm JeM.1 (xs:=[od false (.l (.i .u8)) x0,od false (.i .i64) X]) (x:=(x0,X)) rfl (JeN R O) rfl;refine(JJg JQr (f:=3) (vals:= #[A,z]) (w:=W) rfl (λi a v k r=>?_) run).mono λe W' ⟨T,y⟩=>?_
 match i with
 |0=>simp at k r;subst k r;exact I
 |1=>simp at k r;subst k r;exact G
 |i+2=>simp at k
 subst T;exact⟨_,rfl,JL9 ZL QX JR0 (by rw[Tryz.params3];decide+kernel) (by kernel_rfl) (tb:=4) (by kernel_rfl) rfl (λy=>by subst y;rfl) F y⟩
theorem JJW:Tryz.f3.params.all (Tryz.prog.readableRec ·)=true:=by kernel_rfl
theorem JMk:(Rows.mergerunsArchivesRow.inPlace==Tryz.prog.inPlace 3)=true:=by kernel_rfl
theorem JRf:(Rows.mergerunsArchivesRow.unfollowed==Tryz.prog.unfollowed 3)=true:=by kernel_rfl
theorem JQN:(Rows.mergerunsArchivesRow.recurses==Tryz.prog.recurses 3)=true:=by kernel_rfl
theorem JNa:(Rows.mergerunsArchivesRow.named==Tryz.prog.varsNamed 3)=true:=by kernel_rfl
theorem JQ6:(Rows.mergerunsArchivesRow.plainKeys==Tryz.prog.plainKeys)=true:=by kernel_rfl
theorem JL3:joinedFacts Tryz.prog 3 Tryz.f3 Rows.mergerunsArchivesSpec Rows.mergerunsArchivesRow=true:=by
 unfold joinedFacts;rw[ZL,QX,JJW,JMk,JRf,JQN,JNa,JQ6]
 kernel_rfl
theorem JRH:Rows.mergerunsArchivesRow.holds Tryz.pinned (OpenSpec.ofChange Rows.mergerunsArchivesSpec):=
 OpenClaim.holds_of_wide 3 Tryz.f3 rfl rfl rfl rfl rfl rfl rfl ⟨rfl,rfl,rfl,rfl,rfl⟩ rfl rfl rfl rfl rfl (by kernel_rfl) Tryz.func3 JL3
  (of_decide_eq_true (by kernel_rfl)) (by unfold Func.isWrapper;first|(rw[if_pos (by decide+kernel)];kernel_rfl)|(rw[if_neg (by decide+kernel)];exact⟨rfl,rfl⟩))
  (λos e H enc _=>JPD os e H enc)
theorem mergerunsArchives_proved:Rows.MergerunsArchivesSaid:=JRH
end Go.Proofs.YtckgllmahldikaaGreat
