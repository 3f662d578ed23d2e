/-
  RedoParts returns true for every input, and its arguments read afterwards as before. No condition.
-/
import Derived.Test.YtknpcflejohnoaaGreatRows
import Derived.Test.YtknpcflejohnoaaGreatM5
import Derived.Test.YtknpcflejohnoaaGreatM6
import Derived.Test.YtknpcflejohnoaaGreatM7
import Derived.Test.YtknpcflejohnoaaGreatM8
set_option linter.unusedSimpArgs false
set_option linter.unusedVariables false
namespace Go.Proofs.YtknpcflejohnoaaGreat
open Go.Am Go.ChangeShapes Go.WideShapes Go.ChangeAt Go.RowKit
set_option linter.unusedSimpArgs false
set_option linter.unusedVariables false
set_option maxRecDepth 100000
theorem own:ownKnob Tryz.prog.godebug=none:=by kernel_rfl
theorem IQ:laidOutB Tryz.prog=true:=by kernel_rfl
theorem KO:mapsRowed Tryz.prog=true:=by kernel_rfl
theorem Z9:SN Tryz.prog=true:=by kernel_rfl
theorem JK3(os:Os)(k:os.Started)(H:Type)(enc:TypeId×Value->H):
  ReturnsInHanded {} Tryz.checked os 5 .any (Rows.redoPartsSpec.pre6 enc Tryz.prog Tryz.f5 Rows.redoPartsRow.domain false) (Rows.redoPartsSpec.post enc Tryz.prog Tryz.f5 false true false false):=by
 refine returnsInHanded_of_change (C:=Tryz.checked) own k (by kernel_rfl) Tryz.func5
  (ChangeSpec.witness6 (enc:=enc) (C:=Tryz.checked) false ⟨#[], #[.slice none 0 0,.int .u8 0,.int .u8 0],[]⟩ 8 (by kernel_rfl) (by kernel_rfl) (by kernel_rfl) (by kernel_rfl)) ?_
 intro W base args P gs G r D Q _;have g: ∀(j:Nat) t v,Tryz.f5.params[j]?=some t->args[j]?=some v->Value.okWide Tryz.prog W .any base t v:=r;have I:=D;obtain⟨p,q,E,hV,rfl,aa,a8⟩:=D;have F:DataW.TrodAll enc Tryz.prog W 0 (λ_=>true) true Tryz.f5.params.toList args.toList P p:=E;rw[Tryz.params5]at F g;obtain⟨v0,a9,d0,a2,p0,q0,M,rfl,rfl,h0,V⟩:=trodAll_cons F;obtain⟨v1,a1,d1,a7,p1,q1,rfl,rfl,rfl,h1,N⟩:=trodAll_cons V;obtain⟨v2,a4,d2,ab,p2,q2,rfl,rfl,rfl,h2,R⟩:=trodAll_cons N;obtain⟨rfl,rfl,rfl⟩:=trodAll_nil R;obtain rfl:args= #[v0,v1,v2]:=by cases args;simp_all
 obtain⟨a3,S,L⟩:=YX IQ KO (n:=12) (by kernel_rfl) (g 0 22 v0 rfl rfl) h0;obtain⟨y,rfl,Y⟩:=rdT 12 (.l (.i .u8)) 22 (by kernel_rfl) _ S;rw[YH (lns []) (agg:=false) (by kernel_rfl) (λ_=>by first|rfl|contradiction) y]at L;obtain⟨a5,O,K⟩:=YX IQ KO (n:=12) (by kernel_rfl) (g 1 5 v1 rfl rfl) h1;obtain⟨B,rfl,U⟩:=rdT 12 (.i .u8) 5 (by kernel_rfl) _ O;rw[YH (lns []) (agg:=false) (by kernel_rfl) (λ_=>by first|rfl|contradiction) B]at K;obtain⟨a6,T,J⟩:=YX IQ KO (n:=12) (by kernel_rfl) (g 2 5 v2 rfl rfl) h2;obtain⟨A,rfl,w2⟩:=rdT 12 (.i .u8) 5 (by kernel_rfl) _ T;rw[YH (lns []) (agg:=false) (by kernel_rfl) (λ_=>by first|rfl|contradiction) A]at J;have run:=JJL Xs.1 (xs:=[UK false (.l (.i .u8)) y,UK false (.i .u8) B,UK false (.i .u8) A]) (x:=(y,B,A)) rfl (Xz Y U w2) rfl;refine(JEf JKA (f:=5) (vals:= #[v0,v1,v2]) (w:=W) rfl (λi a v h o=>?_) run).mono λe W' ⟨Z,z⟩=>?_
 match i with
 |0=>simp at h o;subst h o;exact L
 |1=>simp at h o;subst h o;exact K
 |2=>simp at h o;subst h o;exact J
 |i+3=>simp at h
 subst Z;exact⟨_,rfl,JG6 IQ KO Z9 (by rw[Tryz.params5];decide+kernel) (by kernel_rfl) (tb:=4) (by kernel_rfl) rfl (λz=>by subst z;rfl) I z⟩
theorem JEU:Tryz.f5.params.all (Tryz.prog.readableRec ·)=true:=by kernel_rfl
theorem JHb:(Rows.redoPartsRow.inPlace==Tryz.prog.inPlace 5)=true:=by kernel_rfl
theorem JLD:(Rows.redoPartsRow.unfollowed==Tryz.prog.unfollowed 5)=true:=by kernel_rfl
theorem JKT:(Rows.redoPartsRow.recurses==Tryz.prog.recurses 5)=true:=by kernel_rfl
theorem JHV:(Rows.redoPartsRow.named==Tryz.prog.varsNamed 5)=true:=by kernel_rfl
theorem JKo:(Rows.redoPartsRow.plainKeys==Tryz.prog.plainKeys)=true:=by kernel_rfl
theorem JFW:joinedFacts Tryz.prog 5 Tryz.f5 Rows.redoPartsSpec Rows.redoPartsRow=true:=by
 unfold joinedFacts;rw[IQ,KO,JEU,JHb,JLD,JKT,JHV,JKo]
 kernel_rfl
theorem Zk:Rows.redoPartsRow.holds Tryz.pinned (OpenSpec.ofChange Rows.redoPartsSpec):=
 OpenClaim.holds_of_wide 5 Tryz.f5 rfl rfl rfl rfl rfl rfl rfl ⟨rfl,rfl,rfl,rfl,rfl⟩ rfl rfl rfl rfl rfl (by kernel_rfl) Tryz.func5 JFW
  (of_decide_eq_true (by kernel_rfl)) (by unfold Func.isWrapper;first|(rw[if_pos (by decide+kernel)];kernel_rfl)|(rw[if_neg (by decide+kernel)];exact⟨rfl,rfl⟩))
  (λos e H enc _=>JK3 os e H enc)
theorem redoParts_proved:Rows.RedoPartsSaid:=Zk
end Go.Proofs.YtknpcflejohnoaaGreat
