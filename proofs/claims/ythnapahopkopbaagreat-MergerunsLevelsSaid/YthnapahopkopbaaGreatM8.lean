/-
  Parts of a proof.
-/
import Derived.Test.YthnapahopkopbaaGreatChecked
import Derived.Test.YthnapahopkopbaaGreatM6
import Derived.Test.YthnapahopkopbaaGreatM7
set_option linter.unusedSimpArgs false
set_option linter.unusedVariables false
section
namespace Go.Proofs.YthnapahopkopbaaGreat
open Go.Am
set_option maxRecDepth 20000
theorem Jis{α:Type}{f:FuncId}{a:α}: ∀{l:List (FuncId×α)},lkA f l=some a->(f,a)∈l
 |[],h=>by cases h
 |(g,b)::r,h=>by
  simp only[lkA]at h;split at h
  ·rename_i e;injection h with h;subst h e;exact List.mem_cons_self
  ·exact JcV _ (Jis h)
def J2N(l:List (FuncId×AFn)):Prop:= ∀x∈l,J7z Tryz.prog x.1 x.2=true
def Jiu(l:List (FuncId×JbD)):Prop:= ∀x∈l,J7z Tryz.prog x.1 x.2.af=true
theorem J7p:J2N []:=λ_ h=>by cases h
theorem J6l{f a l}(h:J7z Tryz.prog f a=true)(hl:J2N l):J2N ((f,a)::l):=λx hx=>by
 rcases J2U.1 hx with rfl|hx
 ·exact h
 ·exact hl x hx
theorem JEh:Jiu []:=λ_ h=>by cases h
theorem JCX{f a l}(h:J7z Tryz.prog f a.af=true)(hl:Jiu l):Jiu ((f,a)::l):=λx hx=>by
 rcases J2U.1 hx with rfl|hx
 ·exact h
 ·exact hl x hx
theorem J8q{a b}(h:J2N a)(hl:J2N b):J2N (a++b):=λx hx=>(J1U.1 hx).elim (h x) (hl x)
theorem JJz:J2N JAV:=by
 unfold JAV
 repeat (first|exact J7p|refine J6l (by kernel_rfl) ?_)
theorem JK9:J2N JB3:=by
 unfold JB3
 repeat (first|exact J7p|refine J6l (by kernel_rfl) ?_)
theorem JJB:J2N JzJ:=by
 unfold JzJ
 repeat (first|exact J7p|refine J6l (by kernel_rfl) ?_)
theorem JJE:J2N JB1:=by
 unfold JB1
 repeat (first|exact J7p|refine J6l (by kernel_rfl) ?_)
theorem JJx:J2N JAY:=by
 unfold JAY
 repeat (first|exact J7p|refine J6l (by kernel_rfl) ?_)
theorem JJC:J2N JAx:=by
 unfold JAx
 repeat (first|exact J7p|refine J6l (by kernel_rfl) ?_)
theorem JJO:J2N JBB:=by
 unfold JBB
 repeat (first|exact J7p|refine J6l (by kernel_rfl) ?_)
theorem JJD:J2N JAE:=by
 unfold JAE
 repeat (first|exact J7p|refine J6l (by kernel_rfl) ?_)
theorem JJv:J2N JAo:=by
 unfold JAo
 repeat (first|exact J7p|refine J6l (by kernel_rfl) ?_)
theorem JJR:J2N JBH:=by
 unfold JBH
 repeat (first|exact J7p|refine J6l (by kernel_rfl) ?_)
theorem JGO:J2N fns:=J8q JJz<|J8q JK9<|J8q JJB<|J8q JJE<|J8q JJx<|J8q JJC<|J8q JJO<|J8q JJD<|J8q JJv<|JJR
theorem JGL:Jiu fks:=by
 unfold fks
 repeat (first|exact JEh|refine JCX (by kernel_rfl) ?_)
def Jio(l:List (FuncId×Prm)):Prop:= ∀x∈l,∀args blks r,x.2 args blks=some r->J92 Tryz.prog x.1 args blks r
theorem JDy:Jio []:=λ_ h=>by cases h
theorem JDl{f a l}(h: ∀args blks r,a args blks=some r->J92 Tryz.prog f args blks r)(hl:Jio l):Jio ((f,a)::l):=λx hx=>by
 rcases J2U.1 hx with rfl|hx
 ·exact h
 ·exact hl x hx
theorem JGp:Jio fps:=JDl Jk6<|JDy
theorem mixed:Tryz.prog.follows .mixedOrders=true:=by kernel_rfl
def Jyv:PS:=λ_=>none
theorem JHX:J5G Tryz.prog (AF (JDP Jyv)):=by
 refine JJQ mixed (λf e h=>?_) (λf g h=>?_) (λf k h=>?_)
 ·rcases JfW h with⟨x,h1,h2⟩|⟨x,h1,h2⟩|⟨x,h1,h2⟩|⟨x,h1,h2⟩
  ·injection h2 with h2;subst h2;exact JGO _ (Jis h1)
  ·cases h2
  ·cases h2
  ·cases h2
 ·rcases JfW h with⟨x,h1,h2⟩|⟨x,h1,h2⟩|⟨x,h1,h2⟩|⟨x,h1,h2⟩
  ·cases h2
  ·cases h2
  ·injection h2 with h2;subst h2;exact JGp _ (Jis h1)
  ·cases h1
 ·rcases JfW h with⟨x,h1,h2⟩|⟨x,h1,h2⟩|⟨x,h1,h2⟩|⟨x,h1,h2⟩
  ·cases h2
  ·injection h2 with h2;subst h2;exact JGL _ (Jis h1)
  ·cases h2
  ·cases h2
end Go.Proofs.YthnapahopkopbaaGreat
end
