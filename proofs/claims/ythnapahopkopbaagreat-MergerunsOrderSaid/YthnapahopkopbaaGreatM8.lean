/-
  Parts of a proof.
-/
import Derived.Test.YthnapahopkopbaaGreatChecked
import Derived.Test.YthnapahopkopbaaGreatM6
import Derived.Test.YthnapahopkopbaaGreatM7
set_option linter.unusedSimpArgs false
set_option linter.unusedVariables false
section
namespace Go.Proofs.YthnapahopkopbaaGreat
open Go.Am
set_option maxRecDepth 20000
theorem JiX{α:Type}{f:FuncId}{a:α}: ∀{l:List (FuncId×α)},lkA f l=some a->(f,a)∈l
 |[],h=>by cases h
 |(g,b)::r,h=>by
  simp only[lkA]at h;split at h
  ·rename_i e;injection h with h;subst h e;exact List.mem_cons_self
  ·exact JwG _ (JiX h)
def J2P(l:List (FuncId×AFn)):Prop:= ∀x∈l,J7K Tryz.prog x.1 x.2=true
def JiZ(l:List (FuncId×J9N)):Prop:= ∀x∈l,J7K Tryz.prog x.1 x.2.af=true
theorem J7B:J2P []:=λ_ h=>by cases h
theorem J6r{f a l}(h:J7K Tryz.prog f a=true)(hl:J2P l):J2P ((f,a)::l):=λx hx=>by
 rcases J40.1 hx with rfl|hx
 ·exact h
 ·exact hl x hx
theorem JEX:JiZ []:=λ_ h=>by cases h
theorem JDB{f a l}(h:J7K Tryz.prog f a.af=true)(hl:JiZ l):JiZ ((f,a)::l):=λx hx=>by
 rcases J40.1 hx with rfl|hx
 ·exact h
 ·exact hl x hx
theorem J8D{a b}(h:J2P a)(hl:J2P b):J2P (a++b):=λx hx=>(J2h.1 hx).elim (h x) (hl x)
theorem JKn:J2P JBz:=by
 unfold JBz
 repeat (first|exact J7B|refine J6r (by kernel_rfl) ?_)
theorem JKX:J2P JBH:=by
 unfold JBH
 repeat (first|exact J7B|refine J6r (by kernel_rfl) ?_)
theorem JKp:J2P JAm:=by
 unfold JAm
 repeat (first|exact J7B|refine J6r (by kernel_rfl) ?_)
theorem JKs:J2P JBF:=by
 unfold JBF
 repeat (first|exact J7B|refine J6r (by kernel_rfl) ?_)
theorem JKl:J2P JBC:=by
 unfold JBC
 repeat (first|exact J7B|refine J6r (by kernel_rfl) ?_)
theorem JKq:J2P JBb:=by
 unfold JBb
 repeat (first|exact J7B|refine J6r (by kernel_rfl) ?_)
theorem JKC:J2P JCe:=by
 unfold JCe
 repeat (first|exact J7B|refine J6r (by kernel_rfl) ?_)
theorem JKr:J2P JBi:=by
 unfold JBi
 repeat (first|exact J7B|refine J6r (by kernel_rfl) ?_)
theorem JKj:J2P JB2:=by
 unfold JB2
 repeat (first|exact J7B|refine J6r (by kernel_rfl) ?_)
theorem JKF:J2P JCk:=by
 unfold JCk
 repeat (first|exact J7B|refine J6r (by kernel_rfl) ?_)
theorem JHx:J2P fns:=J8D JKn<|J8D JKX<|J8D JKp<|J8D JKs<|J8D JKl<|J8D JKq<|J8D JKC<|J8D JKr<|J8D JKj<|JKF
theorem JHu:JiZ fks:=by
 unfold fks
 repeat (first|exact JEX|refine JDB (by kernel_rfl) ?_)
def JiT(l:List (FuncId×Prm)):Prop:= ∀x∈l,∀args blks r,x.2 args blks=some r->J9g Tryz.prog x.1 args blks r
theorem JEb:JiT []:=λ_ h=>by cases h
theorem JDY{f a l}(h: ∀args blks r,a args blks=some r->J9g Tryz.prog f args blks r)(hl:JiT l):JiT ((f,a)::l):=λx hx=>by
 rcases J40.1 hx with rfl|hx
 ·exact h
 ·exact hl x hx
theorem JH8:JiT fps:=JDY JkD<|JEb
theorem mixed:Tryz.prog.follows .mixedOrders=true:=by kernel_rfl
def Jz7:PS:=λ_=>none
theorem JIK:J5O Tryz.prog (AF (JEu Jz7)):=by
 refine JKE mixed (λf e h=>?_) (λf g h=>?_) (λf k h=>?_)
 ·rcases Jgp h with⟨x,h1,h2⟩|⟨x,h1,h2⟩|⟨x,h1,h2⟩|⟨x,h1,h2⟩
  ·injection h2 with h2;subst h2;exact JHx _ (JiX h1)
  ·cases h2
  ·cases h2
  ·cases h2
 ·rcases Jgp h with⟨x,h1,h2⟩|⟨x,h1,h2⟩|⟨x,h1,h2⟩|⟨x,h1,h2⟩
  ·cases h2
  ·cases h2
  ·injection h2 with h2;subst h2;exact JH8 _ (JiX h1)
  ·cases h1
 ·rcases Jgp h with⟨x,h1,h2⟩|⟨x,h1,h2⟩|⟨x,h1,h2⟩|⟨x,h1,h2⟩
  ·cases h2
  ·injection h2 with h2;subst h2;exact JHu _ (JiX h1)
  ·cases h2
  ·cases h2
end Go.Proofs.YthnapahopkopbaaGreat
end
