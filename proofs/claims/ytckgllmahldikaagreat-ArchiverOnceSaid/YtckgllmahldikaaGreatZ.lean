/-
  ArchiverOnce returns true for every input, and its arguments read afterwards as before. No condition.
-/
import Derived.Test.YtckgllmahldikaaGreatRows
import Derived.Test.YtckgllmahldikaaGreatM5
import Derived.Test.YtckgllmahldikaaGreatM6
import Derived.Test.YtckgllmahldikaaGreatM7
import Derived.Test.YtckgllmahldikaaGreatM8
set_option linter.unusedSimpArgs false
set_option linter.unusedVariables false
namespace Go.Proofs.YtckgllmahldikaaGreat
open Go.Am Go.ChangeShapes Go.WideShapes Go.ChangeAt Go.RowKit
set_option linter.unusedSimpArgs false
set_option linter.unusedVariables false
set_option maxRecDepth 100000
theorem own:ownKnob Tryz.prog.godebug=none:=by kernel_rfl
theorem r4:laidOutB Tryz.prog=true:=by kernel_rfl
theorem tw:mapsRowed Tryz.prog=true:=by kernel_rfl
theorem JRB:XK Tryz.prog=true:=by kernel_rfl
theorem JQd(os:Os)(g:os.Started)(H:Type)(enc:TypeId×Value->H):
  ReturnsInHanded {} Tryz.checked os 5 .any (Rows.archiverOnceSpec.pre6 enc Tryz.prog Tryz.f5 Rows.archiverOnceRow.domain false) (Rows.archiverOnceSpec.post enc Tryz.prog Tryz.f5 false true false false):=by
 refine returnsInHanded_of_change (C:=Tryz.checked) own g (by kernel_rfl) Tryz.func5
  (ChangeSpec.witness6 (enc:=enc) (C:=Tryz.checked) false ⟨#[], #[.slice none 0 0],[]⟩ 8 (by kernel_rfl) (by kernel_rfl) (by kernel_rfl) (by kernel_rfl)) ?_
 intro W base args I V B k z J _;have h: ∀(j:Nat) t v,Tryz.f5.params[j]?=some t->args[j]?=some v->Value.okWide Tryz.prog W .any base t v:=k;have D:=z;obtain⟨p,q,A,Z,rfl,T,R⟩:=z;have hA:DataW.TrodAll enc Tryz.prog W 0 (λ_=>true) true Tryz.f5.params.toList args.toList I p:=A;rw[Tryz.params5]at hA h;obtain⟨y,S,Y,P,p0,U,G,rfl,rfl,K,L⟩:=trodAll_cons hA;obtain⟨rfl,rfl,rfl⟩:=trodAll_nil L;obtain rfl:args= #[y]:=by cases args;simp_all
 obtain⟨Q,N,E⟩:=JNC r4 tw (n:=12) (by kernel_rfl) (h 0 22 y rfl rfl) K;obtain⟨x0,rfl,M⟩:=rdT 12 (.l (.i .u8)) 22 (by kernel_rfl) _ N;rw[JOU (lns []) (agg:=false) (by kernel_rfl) (λ_=>by first|rfl|contradiction) x0]at E;have run:=JPW JjF.1 (xs:=[Hn false (.l (.i .u8)) x0]) (x:=x0) rfl (JjW M) rfl;refine(JJw JQW (f:=5) (vals:= #[y]) (w:=W) rfl (λi a v r F=>?_) run).mono λe W' ⟨O,o⟩=>?_
 match i with
 |0=>simp at r F;subst r F;exact E
 |i+1=>simp at r
 subst O;exact⟨_,rfl,JLx r4 tw JRB (by rw[Tryz.params5];decide+kernel) (by kernel_rfl) (tb:=4) (by kernel_rfl) rfl (λo=>by subst o;rfl) D o⟩
theorem JKf:Tryz.f5.params.all (Tryz.prog.readableRec ·)=true:=by kernel_rfl
theorem JML:(Rows.archiverOnceRow.inPlace==Tryz.prog.inPlace 5)=true:=by kernel_rfl
theorem JRZ:(Rows.archiverOnceRow.unfollowed==Tryz.prog.unfollowed 5)=true:=by kernel_rfl
theorem JRm:(Rows.archiverOnceRow.recurses==Tryz.prog.recurses 5)=true:=by kernel_rfl
theorem JND:(Rows.archiverOnceRow.named==Tryz.prog.varsNamed 5)=true:=by kernel_rfl
theorem JQD:(Rows.archiverOnceRow.plainKeys==Tryz.prog.plainKeys)=true:=by kernel_rfl
theorem JLp:joinedFacts Tryz.prog 5 Tryz.f5 Rows.archiverOnceSpec Rows.archiverOnceRow=true:=by
 unfold joinedFacts;rw[r4,tw,JKf,JML,JRZ,JRm,JND,JQD]
 kernel_rfl
theorem JSF:Rows.archiverOnceRow.holds Tryz.pinned (OpenSpec.ofChange Rows.archiverOnceSpec):=
 OpenClaim.holds_of_wide 5 Tryz.f5 rfl rfl rfl rfl rfl rfl rfl ⟨rfl,rfl,rfl,rfl,rfl⟩ rfl rfl rfl rfl rfl (by kernel_rfl) Tryz.func5 JLp
  (of_decide_eq_true (by kernel_rfl)) (by unfold Func.isWrapper;first|(rw[if_pos (by decide+kernel)];kernel_rfl)|(rw[if_neg (by decide+kernel)];exact⟨rfl,rfl⟩))
  (λos e H enc _=>JQd os e H enc)
theorem archiverOnce_proved:Rows.ArchiverOnceSaid:=JSF
end Go.Proofs.YtckgllmahldikaaGreat
