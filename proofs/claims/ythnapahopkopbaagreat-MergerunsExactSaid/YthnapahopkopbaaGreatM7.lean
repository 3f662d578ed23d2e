/-
  Parts of a proof.
-/
import Derived.Test.YthnapahopkopbaaGreatChecked
import Derived.Shelf.Spec.SlicesGrow
import Derived.Deep.AppendSrc
import Derived.Shelf.RegionOpenPlain
import Derived.Laws.NewBlocks
import Derived.WalkKit
import Derived.Lib.JoinLaws
import Derived.Lib.Builder
import Derived.KernelRfl
import Derived.WalkSpells
import Derived.Tactics
import Derived.Tactics2
import Derived.Test.YthnapahopkopbaaGreatM3
import Derived.Test.YthnapahopkopbaaGreatM4
import Derived.Test.YthnapahopkopbaaGreatM6
set_option linter.unusedSimpArgs false
set_option linter.unusedVariables false
section
namespace Go.Am
set_option maxRecDepth 20000
set_option maxHeartbeats 4000000
variable (p:PS)
noncomputable section
theorem JpQ(r x):onO (JgK g_draw_Codes_Next x) (λy=>JrF (TG.of (sigE 20 g_draw_Codes_Next r::[])) J8x y.1 y.2 (JbH g_draw_Codes_Next))=J3r r x:=by kernel_rfl
abbrev JbY:=sigE 20 g_draw_Codes_Next Jn::[]
theorem JpR:AE JbY:=λp=>⟨JAw (fn:=J8x) (l:=[]) rfl (ae0 p) rfl JpQ 100,ae0 p⟩
abbrev Jql:=sigE 8 JGr J6o::JbY
theorem JHt:AE Jql:=stp Jst JpR λ_=>by kernel_rfl
abbrev J8E:=sigE 24 JhH J37::Jql
theorem Jhs:AE J8E:=stp J9M JHt λ_=>by kernel_rfl
abbrev JdA:=sigE 64 Jsr J47::J8E
theorem Jt2:AE JdA:=stp Jfq Jhs λ_=>by kernel_rfl
abbrev JbO:=sigE 54 JpM J1T::JdA
theorem JpJ:AE JbO:=stp Jcu Jt2 λ_=>by kernel_rfl
abbrev Jlc:=sigE 53 JAX J4Q::JbO
theorem JAn:AE Jlc:=stp JoH JpJ λ_=>by kernel_rfl
abbrev Jf4:=sigE 42 Jv5 J3L::Jlc
theorem Jvb:AE Jf4:=stp Ji8 JAn λ_=>by kernel_rfl
abbrev JaN:=sigE 25 Jov J2y::Jf4
theorem Jnn:AE JaN:=stp JbT Jvb λ_=>by kernel_rfl
abbrev JfW:=sigE 50 JuN J3c::JaN
theorem JvT:AE JfW:=stp JhJ Jnn λ_=>by kernel_rfl
abbrev JaV:=sigE 71 Jnw J3d::JfW
theorem JmC:AE JaV:=stp JbP JvT λ_=>by kernel_rfl
abbrev Jg0:=sigE 70 Jvg J4J::JaV
theorem Juc:AE Jg0:=stp Jhq JmC λ_=>by kernel_rfl
abbrev JeH:=sigE 61 Jvk J3N::Jg0
theorem Jv1:AE JeH:=stp JiG Juc λ_=>by kernel_rfl
abbrev Jm9:=sigE 60 JCO J4S::JeH
theorem JCV:AE Jm9:=stp JnC Jv1 λ_=>by kernel_rfl
abbrev Jcw:=sigE 59 JqN J1N::Jm9
theorem Jrm:AE Jcw:=stp JdY JCV λ_=>by kernel_rfl
abbrev Jcr:=sigE 62 Jrx J3I::Jcw
theorem Jr1:AE Jcr:=stp JdD Jrm λ_=>by kernel_rfl
abbrev Jct:=sigE 63 JqQ J6s::Jcr
theorem JqK:AE Jct:=stp JdU Jr1 λ_=>by kernel_rfl
abbrev JiA:=sigE 51 Jxw JyQ::Jct
theorem Jz3:AE JiA:=stp JkR JqK λ_=>by kernel_rfl
abbrev Jhf:=sigE 40 Jz2 J5j::JiA
theorem Jz5:AE Jhf:=stp JkX Jz3 λ_=>by kernel_rfl
abbrev Jec:=sigE 39 Jtd J49::Jhf
theorem JtR:AE Jec:=stp Jgb Jz5 λ_=>by kernel_rfl
abbrev JdS:=sigE 52 JtO J5u::Jec
theorem JtW:AE JdS:=stp Jgn JtR λ_=>by kernel_rfl
abbrev JiV:=sigE 41 Jze J5o::JdS
theorem Jyf:AE JiV:=stp Jl0 JtW λ_=>by kernel_rfl
abbrev JkM:=sigE 23 JAb J1Z::JiV
theorem JCk:AE JkM:=stp JnE Jyf λ_=>by kernel_rfl
abbrev Jc4:=sigE 11 JpK J0J::JkM
theorem JpI:AE Jc4:=stp Jcz JCk λ_=>by kernel_rfl
abbrev JhV:=sigE 7 Jxf J6M::Jc4
theorem JxV:AE JhV:=stp Jlo JpI λ_=>by kernel_rfl
abbrev JbQ:=sigE 98 JpD J3s::JhV
theorem JpF:AE JbQ:=stp Jco JxV λ_=>by kernel_rfl
abbrev JcH:=sigE 99 Jr9 J0n::JbQ
theorem Jr0:AE JcH:=stp Jeo JpF λ_=>by kernel_rfl
abbrev Jao:=sigE 85 Jmq J3C::JcH
theorem Jmx:AE Jao:=stp JaM Jr0 λ_=>by kernel_rfl
abbrev JbZ:=sigE 68 JpH J60::Jao
theorem JpL:AE JbZ:=stp JcB Jmx λ_=>by kernel_rfl
abbrev J8K:=sigE 57 Jhm J4a::JbZ
theorem JiT:AE J8K:=stp J9t JpL λ_=>by kernel_rfl
abbrev JeI:=sigE 75 Jvu J7Z::J8K
theorem JvP:AE JeI:=stp Jh8 JiT λ_=>by kernel_rfl
abbrev JoW:=sigE 66 JEm JbL::JeI
theorem JF6:AE JoW:=stp JpT JvP λ_=>by kernel_rfl
abbrev Jog:=sigE 74 JEw JE7::JoW
theorem JE4:AE Jog:=stp Jq6 JF6 λ_=>by kernel_rfl
abbrev JmS:=sigE 72 JF2 J8z::Jog
theorem JEp:AE JmS:=stp Jqv JE4 λ_=>by kernel_rfl
abbrev JoV:=sigE 73 JEv J8F::JmS
theorem JFl:AE JoV:=stp Jqg JEp λ_=>by kernel_rfl
abbrev Jp6:=sigE 65 JEa Jbt::JoV
theorem JEq:AE Jp6:=stp Jqj JFl λ_=>by kernel_rfl
abbrev JmT:=sigE 55 JEO JbM::Jp6
theorem JEj:AE JmT:=stp Jqz JEq λ_=>by kernel_rfl
abbrev Jfb:=sigE 49 JvL J21::JmT
theorem JuO:AE Jfb:=stp Jhu JEj λ_=>by kernel_rfl
abbrev JbS:=sigE 69 JpS J0A::Jfb
theorem JpP:AE JbS:=stp Jcv JuO λ_=>by kernel_rfl
abbrev JiJ:=sigE 58 Jxc J1F::JbS
theorem Jza:AE JiJ:=stp Jm1 JpP λ_=>by kernel_rfl
abbrev Jh2:=sigE 48 Jzb J2H::JiJ
theorem JxJ:AE Jh2:=stp Jm5 Jza λ_=>by kernel_rfl
abbrev Jio:=sigE 36 Jxh J02::Jh2
theorem Jxx:AE Jio:=stp Jlp JxJ λ_=>by kernel_rfl
abbrev JlW:=sigE 47 JAh J2m::Jio
theorem JCC:AE JlW:=stp JnQ Jxx λ_=>by kernel_rfl
abbrev Jh6:=sigE 46 Jx5 J0i::JlW
theorem Jxi:AE Jh6:=stp JkQ JCC λ_=>by kernel_rfl
abbrev JiL:=sigE 33 Jzh J2G::Jh6
theorem Jx3:AE JiL:=stp JkW Jxi λ_=>by kernel_rfl
abbrev JkI:=sigE 34 JDs J3X::JiL
theorem JDT:AE JkI:=stp Jn2 Jx3 λ_=>by kernel_rfl
abbrev Jfg:=sigE 84 JvS Jx::JkI
theorem Jw4:AE Jfg:=stp Jhr JDT λ_=>by kernel_rfl
abbrev JiZ:=sigE 177 Jzk J2l::Jfg
theorem Jxb:AE JiZ:=stp Jks Jw4 λ_=>by kernel_rfl
abbrev JiK:=sigE 130 Jyh J0Z::JiZ
theorem JyG:AE JiK:=stp Jlk Jxb λ_=>by kernel_rfl
abbrev Jme:=sigE 131 JD3 J1q::JiK
theorem JAl:AE Jme:=stp JmV JyG λ_=>by kernel_rfl
abbrev Jh9:=sigE 100 JyR J6F::Jme
theorem JxR:AE Jh9:=stp JkP JAl λ_=>by kernel_rfl
abbrev Jix:=sigE 118 JyM J4k::Jh9
theorem JyC:AE Jix:=stp Jmn JxR λ_=>by kernel_rfl
abbrev JcG:=sigE 188 Jr6 J2d::Jix
theorem JrT:AE JcG:=stp JdK JyC λ_=>by kernel_rfl
abbrev JiS:=sigE 208 Jy7 J5m::JcG
theorem Jz6:AE JiS:=stp Jml JrT λ_=>by kernel_rfl
abbrev Jmj:=sigE 209 JAV J7I::JiS
theorem JBz:AE Jmj:=stp JnB Jz6 λ_=>by kernel_rfl
abbrev JlP:=sigE 210 JCm J2X::Jmj
theorem JAI:AE JlP:=stp JnL JBz λ_=>by kernel_rfl
abbrev JhD:=sigE 162 JxC J1n::JlP
theorem Jzg:AE JhD:=stp JlN JAI λ_=>by kernel_rfl
abbrev Jj7:=sigE 191 Jyx J1U::JhD
theorem Jyr:AE Jj7:=stp JkA Jzg λ_=>by kernel_rfl
abbrev Jer:=sigE 190 Jt7 J1J::Jj7
theorem JsE:AE Jer:=stp JfK Jyr λ_=>by kernel_rfl
abbrev Jj4:=sigE 138 Jx8 J1y::Jer
theorem Jxd:AE Jj4:=stp Jl7 JsE λ_=>by kernel_rfl
abbrev Jj2:=sigE 106 JyU J0j::Jj4
theorem JxW:AE Jj2:=stp Jmh Jxd λ_=>by kernel_rfl
abbrev Jnq:=sigE 211 JEC J6V::Jj2
theorem JEi:AE Jnq:=stp Jqu JxW λ_=>by kernel_rfl
abbrev Jhy:=sigE 163 Jzu J1D::Jnq
theorem JyN:AE Jhy:=stp JkJ JEi λ_=>by kernel_rfl
abbrev JaS:=sigE 164 JnJ J1L::Jhy
theorem JoF:AE JaS:=stp JbN JyN λ_=>by kernel_rfl
abbrev Jim:=sigE 117 JxX J4q::JaS
theorem JxI:AE Jim:=stp Jl5 JoF λ_=>by kernel_rfl
abbrev Ji7:=sigE 94 Jyq JL::Jim
theorem Jxz:AE Ji7:=stp JlM JxI λ_=>by kernel_rfl
abbrev JiY:=sigE 86 JyA J9d::Ji7
theorem Jxq:AE JiY:=stp JlJ Jxz λ_=>by kernel_rfl
abbrev JhS:=sigE 76 Jzo J8T::JiY
theorem Jx1:AE JhS:=stp Jkx Jxq λ_=>by kernel_rfl
abbrev Jef:=sigE 37 JsC JN::JhS
theorem JtU:AE Jef:=stp JfR Jx1 λ_=>by kernel_rfl
abbrev Jfu:=sigE 153 Jud J1k::Jef
theorem JvF:AE Jfu:=stp JhR JtU λ_=>by kernel_rfl
abbrev JoJ:=sigE 154 JEG J0M::Jfu
theorem JEF:AE JoJ:=stp JqB JvF λ_=>by kernel_rfl
abbrev Joe:=sigE 199 JEN Jbs::JoJ
theorem JEf:AE Joe:=stp Jq1 JEF λ_=>by kernel_rfl
abbrev JlB:=sigE 156 JDX J2V::Joe
theorem JDS:AE JlB:=stp Joj JEf λ_=>by kernel_rfl
abbrev JlZ:=sigE 152 JB0 J0P::JlB
theorem JBS:AE JlZ:=stp Jnd JDS λ_=>by kernel_rfl
abbrev JeT:=sigE 196 Jw5 J4L::JlZ
theorem Jvq:AE JeT:=stp JgY JBS λ_=>by kernel_rfl
abbrev Jot:=sigE 197 JE8 J2T::JeT
theorem JDZ:AE Jot:=stp Jqm Jvq λ_=>by kernel_rfl
abbrev Jfh:=sigE 198 JuH J2n::Jot
theorem Jvc:AE Jfh:=stp Jhb JDZ λ_=>by kernel_rfl
abbrev JlF:=sigE 155 JAP J0G::Jfh
theorem JBo:AE JlF:=stp Jn9 Jvc λ_=>by kernel_rfl
abbrev Jmo:=sigE 107 JBa J1K::JlF
theorem JAQ:AE Jmo:=stp Jnh JBo λ_=>by kernel_rfl
abbrev JlX:=sigE 89 JDD J1p::Jmo
theorem JAL:AE JlX:=stp Jny JAQ λ_=>by kernel_rfl
abbrev Joi:=sigE 104 JFc J2W::JlX
theorem JER:AE Joi:=stp Jq8 JAL λ_=>by kernel_rfl
abbrev Jmg:=sigE 121 JBe J3Y::Joi
theorem JBu:AE Jmg:=stp JoN JER λ_=>by kernel_rfl
abbrev Jn4:=sigE 113 JEc J1h::Jmg
theorem JEH:AE Jn4:=stp Jqa JBu λ_=>by kernel_rfl
abbrev Jnz:=sigE 140 JEQ JP::Jn4
theorem JF8:AE Jnz:=stp Jqp JEH λ_=>by kernel_rfl
abbrev Jg6:=sigE 151 JuL J8g::Jnz
theorem JuQ:AE Jg6:=stp Ji9 JF8 λ_=>by kernel_rfl
abbrev JdZ:=sigE 195 Jtl J5E::Jg6
theorem JtK:AE JdZ:=stp Jfc JuQ λ_=>by kernel_rfl
abbrev JeY:=sigE 150 Jw0 J7V::JdZ
theorem JuS:AE JeY:=stp Ji6 JtK λ_=>by kernel_rfl
abbrev Jhp:=sigE 149 Jzq J6H::JeY
theorem Jy2:AE Jhp:=stp Jkt JuS λ_=>by kernel_rfl
abbrev Jgl:=sigE 112 Jus J7N::Jhp
theorem Jvs:AE Jgl:=stp Jhx Jy2 λ_=>by kernel_rfl
abbrev JhT:=sigE 148 Jzs J6K::Jgl
theorem JyS:AE JhT:=stp Jkv Jvs λ_=>by kernel_rfl
abbrev Jqw:=sigE 111 JI2 JcV::JhT
theorem JIs:AE Jqw:=stp JtF JyS λ_=>by kernel_rfl
abbrev Jm0:=sigE 91 JzX Jau::Jqw
theorem JAT:AE Jm0:=stp JmL JIs λ_=>by kernel_rfl
abbrev JaO:=sigE 80 JmE J5C::Jm0
theorem JmI:AE JaO:=stp JbR JAT λ_=>by kernel_rfl
abbrev JiX:=sigE 105 JxM J2E::JaO
theorem Jy8:AE JiX:=stp Jkp JmI λ_=>by kernel_rfl
abbrev JiC:=sigE 88 Jxg J4o::JiX
theorem Jz7:AE JiC:=stp Jl2 Jy8 λ_=>by kernel_rfl
abbrev Jnc:=sigE 142 JFd J5W::JiC
theorem JE3:AE Jnc:=stp Jqd Jz7 λ_=>by kernel_rfl
abbrev Jht:=sigE 139 Jy4 J2i::Jnc
theorem Jxu:AE Jht:=stp JkC JE3 λ_=>by kernel_rfl
abbrev JiW:=sigE 141 Jyu J4p::Jht
theorem Jy1:AE JiW:=stp Jmd Jxu λ_=>by kernel_rfl
abbrev JfJ:=sigE 108 Jwm J4G::JiW
theorem Jwo:AE JfJ:=stp Jir Jy1 λ_=>by kernel_rfl
abbrev JkS:=sigE 144 JAM J7k::JfJ
theorem JCU:AE JkS:=stp JnY Jwo λ_=>by kernel_rfl
abbrev Jeb:=sigE 193 Jts J5r::JkS
theorem JtV:AE Jeb:=stp Jgf JCU λ_=>by kernel_rfl
abbrev JgW:=sigE 145 Jx9 J1B::Jeb
theorem Jzd:AE JgW:=stp Jl6 JtV λ_=>by kernel_rfl
abbrev Jhl:=sigE 231 JxP J2Z::JgW
theorem Jy3:AE Jhl:=stp Jkl Jzd λ_=>by kernel_rfl
abbrev JhZ:=sigE 192 JxS J30::Jhl
theorem Jxr:AE JhZ:=stp Jlh Jy3 λ_=>by kernel_rfl
abbrev Jf5:=sigE 143 Jv3 J2p::JhZ
theorem JuM:AE Jf5:=stp JhA Jxr λ_=>by kernel_rfl
abbrev JlG:=sigE 146 JBL J51::Jf5
theorem JDQ:AE JlG:=stp Jns JuM λ_=>by kernel_rfl
abbrev JhU:=sigE 109 Jyd J9b::JlG
theorem Jxk:AE JhU:=stp Jm2 JDQ λ_=>by kernel_rfl
abbrev Jnb:=sigE 194 JF7 J2q::JhU
theorem JFe:AE Jnb:=stp Jqy Jxk λ_=>by kernel_rfl
abbrev JhO:=sigE 147 Jyl J9i::Jnb
theorem JyO:AE JhO:=stp JlE JFe λ_=>by kernel_rfl
abbrev Jek:=sigE 110 Jtr J3l::JhO
theorem Jt6:AE Jek:=stp JfX JyO λ_=>by kernel_rfl
abbrev Jiq:=sigE 90 Jzw J3t::Jek
theorem JyW:AE Jiq:=stp JlT Jt6 λ_=>by kernel_rfl
abbrev JiP:=sigE 79 Jxt J8Y::Jiq
theorem JxT:AE JiP:=stp JlH JyW λ_=>by kernel_rfl
abbrev Jls:=sigE 171 JB9 J58::JiP
theorem JAF:AE Jls:=stp JoZ JxT λ_=>by kernel_rfl
abbrev JlD:=sigE 218 JA2 J9T::Jls
theorem JBv:AE JlD:=stp Jp5 JAF λ_=>by kernel_rfl
abbrev JlA:=sigE 219 JBA JaD::JlD
theorem JBJ:AE JlA:=stp JnI JBv λ_=>by kernel_rfl
abbrev JfY:=sigE 170 Jwk J35::JlA
theorem JvY:AE JfY:=stp JgU JBJ λ_=>by kernel_rfl
abbrev JdV:=sigE 127 JsF J3p::JfY
theorem Jtg:AE JdV:=stp Jg3 JvY λ_=>by kernel_rfl
abbrev JdN:=sigE 126 JsK J1a::JdV
theorem JsW:AE JdN:=stp Jfi Jtg λ_=>by kernel_rfl
abbrev Jmm:=sigE 128 JCe J3n::JdN
theorem JDB:AE Jmm:=stp Jop JsW λ_=>by kernel_rfl
abbrev Jhk:=sigE 173 JyX J3w::Jmm
theorem Jyw:AE Jhk:=stp Jm3 JDB λ_=>by kernel_rfl
abbrev JdE:=sigE 172 JtQ J77::Jhk
theorem Jtu:AE JdE:=stp Jfk Jyw λ_=>by kernel_rfl
abbrev Jlz:=sigE 176 JBX J7y::JdE
theorem JzZ:AE Jlz:=stp Jp0 Jtu λ_=>by kernel_rfl
abbrev JfQ:=sigE 220 Jvz J8i::Jlz
theorem Jwf:AE JfQ:=stp Jjf JzZ λ_=>by kernel_rfl
abbrev JmU:=sigE 174 JEL J6Q::JfQ
theorem JEE:AE JmU:=stp Jq7 Jwf λ_=>by kernel_rfl
abbrev Jqk:=sigE 221 JHz J6p::JmU
theorem JGK:AE Jqk:=stp Jtj JEE λ_=>by kernel_rfl
abbrev Jfw:=sigE 175 Juv J2N::Jqk
theorem JvX:AE Jfw:=stp JgT JGK λ_=>by kernel_rfl
abbrev Jm7:=sigE 129 JDr J2h::Jfw
theorem JCd:AE Jm7:=stp JoQ JvX λ_=>by kernel_rfl
abbrev JlY:=sigE 97 JDE J1f::Jm7
theorem JDJ:AE JlY:=stp Jnv JCd λ_=>by kernel_rfl
abbrev Jf6:=sigE 125 JvE J66::JlY
theorem Ju2:AE Jf6:=stp Jil JDJ λ_=>by kernel_rfl
abbrev Jl3:=sigE 96 JBG Jal::Jf6
theorem JB8:AE Jl3:=stp JoL Ju2 λ_=>by kernel_rfl
abbrev JoD:=sigE 166 JEu Jbw::Jl3
theorem JFh:AE JoD:=stp JqA JB8 λ_=>by kernel_rfl
abbrev JlL:=sigE 120 JCR Jaz::JoD
theorem JBy:AE JlL:=stp Joc JFh λ_=>by kernel_rfl
abbrev JoG:=sigE 203 JFm J0x::JlL
theorem JED:AE JoG:=stp JpW JBy λ_=>by kernel_rfl
abbrev Jij:=sigE 239 Jxy J9f::JoG
theorem JxD:AE Jij:=stp JkV JED λ_=>by kernel_rfl
abbrev JeM:=sigE 214 Jv9 J7W::Jij
theorem JuK:AE JeM:=stp Jia JxD λ_=>by kernel_rfl
abbrev Joq:=sigE 215 JF0 J8J::JeM
theorem JEt:AE Joq:=stp Jqf JuK λ_=>by kernel_rfl
abbrev JcD:=sigE 167 Jrz J33::Joq
theorem Jrk:AE JcD:=stp JdR JEt λ_=>by kernel_rfl
abbrev JhG:=sigE 122 Jy6 J4g::JcD
theorem Jya:AE JhG:=stp JlR Jrk λ_=>by kernel_rfl
abbrev Joz:=sigE 169 JFj J5S::JhG
theorem JEY:AE Joz:=stp Jqc Jya λ_=>by kernel_rfl
abbrev JfE:=sigE 124 JvI J3K::Joz
theorem Jue:AE JfE:=stp Jig JEY λ_=>by kernel_rfl
abbrev Jhv:=sigE 217 Jzf J4f::JfE
theorem JyK:AE Jhv:=stp Jlq Jue λ_=>by kernel_rfl
abbrev Jho:=sigE 243 Jzv Jcd::Jhv
theorem JxZ:AE Jho:=stp JkZ JyK λ_=>by kernel_rfl
abbrev JkK:=sigE 240 JAi Jab::Jho
theorem JAe:AE JkK:=stp JnG JxZ λ_=>by kernel_rfl
abbrev Jh7:=sigE 216 Jx2 J90::JkK
theorem Jyz:AE Jh7:=stp Jm4 JAe λ_=>by kernel_rfl
abbrev Jkz:=sigE 168 JD7 J56::Jh7
theorem JBj:AE Jkz:=stp JoC Jyz λ_=>by kernel_rfl
abbrev Jl1:=sigE 123 JCr J4Z::Jkz
theorem JBE:AE Jl1:=stp Jno JBj λ_=>by kernel_rfl
abbrev Jko:=sigE 213 JDz Jaj::Jl1
theorem JAR:AE Jko:=stp JmO JBE λ_=>by kernel_rfl
abbrev JfG:=sigE 212 JvB J8d::Jko
theorem Ju5:AE JfG:=stp Ji3 JAR λ_=>by kernel_rfl
abbrev Jlx:=sigE 165 JD9 J4U::JfG
theorem JD4:AE Jlx:=stp JnP Ju5 λ_=>by kernel_rfl
abbrev JlU:=sigE 119 JDk J4X::Jlx
theorem JCu:AE JlU:=stp JoA JD4 λ_=>by kernel_rfl
abbrev Jiv:=sigE 95 Jxe J2k::JlU
theorem JxK:AE Jiv:=stp Jke JCu λ_=>by kernel_rfl
abbrev Jkk:=sigE 83 JBP Jas::Jiv
theorem JAK:AE Jkk:=stp Jo5 JxK λ_=>by kernel_rfl
abbrev JeF:=sigE 81 Jvt J2L::Jkk
theorem Jvo:AE JeF:=stp Jh0 JAK λ_=>by kernel_rfl
abbrev Jev:=sigE 135 Jsf J3o::JeF
theorem Jsa:AE Jev:=stp JeQ Jvo λ_=>by kernel_rfl
abbrev Jlf:=sigE 189 JBm J6a::Jev
theorem JBW:AE Jlf:=stp JnM Jsa λ_=>by kernel_rfl
abbrev JnH:=sigE 136 JEl J6P::Jlf
theorem JEh:AE JnH:=stp Jqi JBW λ_=>by kernel_rfl
abbrev Jed:=sigE 102 JtT J7a::JnH
theorem Jtm:AE Jed:=stp JeX JEh λ_=>by kernel_rfl
abbrev JhI:=sigE 226 JyP J6J::Jed
theorem Jzj:AE JhI:=stp Jkm Jtm λ_=>by kernel_rfl
abbrev JdW:=sigE 184 JrW J74::JhI
theorem Jt3:AE JdW:=stp Jfd Jzj λ_=>by kernel_rfl
abbrev J6y:=sigE 228 Jsz J7f::JdW
theorem Jgr:AE J6y:=stp JfV Jt3 λ_=>by kernel_rfl
theorem JvK(r x):onO (JgK g_ref09_closed x) (λy=>JrF (TG.of (sigE 229 g_ref09_closed r::J6y)) Jb1 y.1 y.2 (JbH g_ref09_closed))=J4M r x:=by kernel_rfl
abbrev Jff:=sigE 229 g_ref09_closed Ji5::J6y
theorem Jwe:AE Jff:=λp=>⟨JAw (fn:=Jb1) (l:=J6y) rfl (Jgr p) rfl JvK 1100,Jgr p⟩
abbrev Jhz:=sigE 186 Jye J97::Jff
theorem Jyn:AE Jhz:=stp JkG Jwe λ_=>by kernel_rfl
abbrev Jf9:=sigE 225 JuD J38::Jhz
theorem Jwn:AE Jf9:=stp JiD Jyn λ_=>by kernel_rfl
abbrev JlV:=sigE 182 JBq J7H::Jf9
theorem JAa:AE JlV:=stp Jnt Jwn λ_=>by kernel_rfl
abbrev JkN:=sigE 181 JDe J7B::JlV
theorem JCy:AE JkN:=stp JmM JAa λ_=>by kernel_rfl
abbrev Jj3:=sigE 230 JxY J8W::JkN
theorem JyB:AE Jj3:=stp Jla JCy λ_=>by kernel_rfl
abbrev JnT:=sigE 187 JDY JbJ::Jj3
theorem JEr:AE JnT:=stp Jq3 JyB λ_=>by kernel_rfl
abbrev Joa:=sigE 227 JEb Jby::JnT
theorem JEZ:AE Joa:=stp JqC JEr λ_=>by kernel_rfl
abbrev JeL:=sigE 185 Jui J3G::Joa
theorem Jvn:AE JeL:=stp JhM JEZ λ_=>by kernel_rfl
abbrev JfA:=sigE 179 JvW J3P::JeL
theorem Jw2:AE JfA:=stp Jhn Jvn λ_=>by kernel_rfl
abbrev Jge:=sigE 223 Ju1 J8e::JfA
theorem JuI:AE Jge:=stp Jjj Jw2 λ_=>by kernel_rfl
abbrev Jdh:=sigE 224 JtY J78::Jge
theorem JsQ:AE Jdh:=stp Jg5 JuI λ_=>by kernel_rfl
abbrev Jip:=sigE 180 JxL J3x::Jdh
theorem JxU:AE Jip:=stp Jlm JsQ λ_=>by kernel_rfl
abbrev Jll:=sigE 183 JDy J7o::Jip
theorem JC1:AE Jll:=stp Jp7 JxU λ_=>by kernel_rfl
abbrev Jgp:=sigE 222 Jur J4K::Jll
theorem Jul:AE Jgp:=stp JhN JC1 λ_=>by kernel_rfl
abbrev Jdg:=sigE 178 Jtb J2v::Jgp
theorem Jsl:AE Jdg:=stp Jfx Jul λ_=>by kernel_rfl
abbrev Jqq:=sigE 132 JGs J6q::Jdg
theorem JHR:AE Jqq:=stp Jsq Jsl λ_=>by kernel_rfl
abbrev JdM:=sigE 133 Jty J2R::Jqq
theorem Js7:AE JdM:=stp Jgh JHR λ_=>by kernel_rfl
abbrev Jcy:=sigE 134 Jrc J34::JdM
theorem JqO:AE Jcy:=stp Je6 Js7 λ_=>by kernel_rfl
abbrev Jq5:=sigE 101 JIb JcL::Jcy
theorem JGu:AE Jq5:=stp JtM JqO λ_=>by kernel_rfl
abbrev Jkf:=sigE 137 JBQ J2z::Jq5
theorem JCs:AE Jkf:=stp JnF JGu λ_=>by kernel_rfl
abbrev JkD:=sigE 103 JAx JaC::Jkf
theorem JDj:AE JkD:=stp JoR JCs λ_=>by kernel_rfl
abbrev Jq0:=sigE 87 JGC Jd1::JkD
theorem JIg:AE Jq0:=stp Jsp JDj λ_=>by kernel_rfl
abbrev J9C:=sigE 78 Jk8 J4A::Jq0
theorem Jjq:AE J9C:=stp JaG JIg λ_=>by kernel_rfl
abbrev Jmf:=sigE 114 JDR Ja5::J9C
theorem JDC:AE Jmf:=stp Jom Jjq λ_=>by kernel_rfl
abbrev Jis:=sigE 200 JxF J6L::Jmf
theorem Jx4:AE Jis:=stp Jle JDC λ_=>by kernel_rfl
abbrev Jlb:=sigE 232 JDK J7J::Jis
theorem JC2:AE Jlb:=stp JmF Jx4 λ_=>by kernel_rfl
abbrev JfD:=sigE 201 Jwg J89::Jlb
theorem Jua:AE JfD:=stp Jhj JC2 λ_=>by kernel_rfl
abbrev JiN:=sigE 158 Jxm J6I::JfD
theorem Jzm:AE JiN:=stp Jmk Jua λ_=>by kernel_rfl
abbrev Jlr:=sigE 157 JBl Ja3::JiN
theorem JA3:AE Jlr:=stp JnU Jzm λ_=>by kernel_rfl
abbrev JiH:=sigE 115 JxG J4n::Jlr
theorem Jyv:AE JiH:=stp Jkw JA3 λ_=>by kernel_rfl
abbrev Ji4:=sigE 92 Jy9 J99::JiH
theorem Jy5:AE Ji4:=stp Jl8 Jyv λ_=>by kernel_rfl
abbrev JdH:=sigE 202 Jtk J5H::Ji4
theorem JtL:AE JdH:=stp Jgo Jy5 λ_=>by kernel_rfl
abbrev J9L:=sigE 235 Jjn J3k::JdH
theorem JjB:AE J9L:=stp Jag JtL λ_=>by kernel_rfl
abbrev J8M:=sigE 233 Jiu J0y::J9L
theorem Jjl:AE J8M:=stp J9H JjB λ_=>by kernel_rfl
abbrev JaH:=sigE 234 Jmy J3E::J8M
theorem Jmu:AE JaH:=stp JaL Jjl λ_=>by kernel_rfl
abbrev Jgm:=sigE 204 Jwp J88::JaH
theorem Ju4:AE Jgm:=stp Jjk Jmu λ_=>by kernel_rfl
abbrev Jlv:=sigE 159 JBn JaF::Jgm
theorem JAH:AE Jlv:=stp Jnk Ju4 λ_=>by kernel_rfl
abbrev Jlj:=sigE 242 JCI Jax::Jlv
theorem JAG:AE Jlj:=stp Jn8 JAH λ_=>by kernel_rfl
abbrev JlO:=sigE 238 JAm Jat::Jlj
theorem JDw:AE JlO:=stp Jnm JAG λ_=>by kernel_rfl
abbrev Jib:=sigE 207 Jyg J8S::JlO
theorem Jzr:AE Jib:=stp JlI JDw λ_=>by kernel_rfl
abbrev JfS:=sigE 245 Jvp J7Q::Jib
theorem Juw:AE JfS:=stp JhB Jzr λ_=>by kernel_rfl
abbrev J8D:=sigE 246 JiB J11::JfS
theorem JiI:AE J8D:=stp J9y Juw λ_=>by kernel_rfl
abbrev JaJ:=sigE 247 Jmv J3D::J8D
theorem Jms:AE JaJ:=stp JaQ JiI λ_=>by kernel_rfl
abbrev JeC:=sigE 244 Jwi J87::JaJ
theorem JvZ:AE JeC:=stp JhC Jms λ_=>by kernel_rfl
abbrev JeD:=sigE 241 Jva J7R::JeC
theorem Ju0:AE JeD:=stp Jj9 JvZ λ_=>by kernel_rfl
abbrev Jfl:=sigE 236 Jwc J7O::JeD
theorem Jwh:AE Jfl:=stp Jjc Ju0 λ_=>by kernel_rfl
abbrev Jjh:=sigE 205 JxA J8V::Jfl
theorem JyL:AE Jjh:=stp Jkr Jwh λ_=>by kernel_rfl
abbrev Jii:=sigE 237 Jzn J2Y::Jjh
theorem Jxs:AE Jii:=stp Jmc JyL λ_=>by kernel_rfl
abbrev JkY:=sigE 206 JCb J9X::Jii
theorem JBU:AE JkY:=stp Jp2 Jxs λ_=>by kernel_rfl
abbrev Je2:=sigE 160 JrZ J72::JkY
theorem Jsw:AE Je2:=stp JfB JBU λ_=>by kernel_rfl
abbrev JiF:=sigE 161 Jyt J94::Je2
theorem JxH:AE JiF:=stp Jky Jsw λ_=>by kernel_rfl
abbrev Jld:=sigE 116 JAA Ja1::JiF
theorem JCc:AE Jld:=stp JmQ JxH λ_=>by kernel_rfl
abbrev JlC:=sigE 93 JC5 J9U::Jld
theorem JAk:AE JlC:=stp Jos JCc λ_=>by kernel_rfl
abbrev J8l:=sigE 82 JgP J3V::JlC
theorem JgG:AE J8l:=stp J8G JAk λ_=>by kernel_rfl
abbrev J8P:=sigE 77 Ji2 J1s::J8l
theorem JiR:AE J8P:=stp J9z JgG λ_=>by kernel_rfl
abbrev J8I:=sigE 67 Jhe J48::J8P
theorem JhF:AE J8I:=stp J9w JiR λ_=>by kernel_rfl
abbrev Jp1:=sigE 56 JE2 JbF::J8I
theorem JFf:AE Jp1:=stp Jqr JhF λ_=>by kernel_rfl
abbrev J9G:=sigE 45 Jk0 J4z::Jp1
theorem Jjw:AE J9G:=stp JaB JFf λ_=>by kernel_rfl
abbrev Ja4:=sigE 32 Jmp J5d::J9G
theorem Jmz:AE Ja4:=stp JaK Jjw λ_=>by kernel_rfl
abbrev Jqo:=sigE 21 JGQ JcU::Ja4
theorem JI8:AE Jqo:=stp JsD Jmz λ_=>by kernel_rfl
abbrev Jds:=sigE 43 JsB J0U::Jqo
theorem Jt4:AE Jds:=stp JfP JI8 λ_=>by kernel_rfl
abbrev Jfy:=sigE 38 Jvd J3O::Jds
theorem Ju7:AE Jfy:=stp Jiy Jt4 λ_=>by kernel_rfl
abbrev Jdt:=sigE 35 Jsu J27::Jfy
theorem Jtx:AE Jdt:=stp Jgj Ju7 λ_=>by kernel_rfl
abbrev Jhc:=sigE 29 JxE J10::Jdt
theorem Jyi:AE Jhc:=stp JkO Jtx λ_=>by kernel_rfl
abbrev JlQ:=sigE 22 JB7 J69::Jhc
theorem JBH:AE JlQ:=stp JmN Jyi λ_=>by kernel_rfl
abbrev JgZ:=sigE 9 JxB J8X::JlQ
theorem Jz8:AE JgZ:=stp Jlw JBH λ_=>by kernel_rfl
abbrev J41:=sigE 31 J7P J2M::JgZ
theorem J7X:AE J41:=λp=>⟨JK0 (t:=J4) rfl,Jz8 p⟩
abbrev Jcs:=sigE 17 JqH J1r::J41
theorem Jrh:AE Jcs:=stp Jez J7X λ_=>by kernel_rfl
abbrev J44:=sigE 28 J8p J0g::Jcs
theorem J8t:AE J44:=λp=>⟨JLK rfl,Jrh p⟩
abbrev J9F:=sigE 27 JjP J6k::J44
theorem Jjp:AE J9F:=stp Jan J8t λ_=>by kernel_rfl
abbrev J36:=sigE 26 J6g J1d::J9F
theorem J6f:AE J36:=stp J3B Jjp λ_=>by kernel_rfl
abbrev Jc1:=sigE 12 JpG J1u::J36
theorem JpO:AE Jc1:=stp Jcn J6f λ_=>by kernel_rfl
abbrev Jac:=sigE 13 Jmw J3F::Jc1
theorem Jmr:AE Jac:=stp JaW JpO λ_=>by kernel_rfl
abbrev JkF:=sigE 19 JCP J3W::Jac
theorem JAS:AE JkF:=stp Jp8 Jmr λ_=>by kernel_rfl
abbrev Jkg:=sigE 18 JCS J2B::JkF
theorem JB6:AE Jkg:=stp Jol JAS λ_=>by kernel_rfl
abbrev Jf3:=sigE 30 JvA J83::Jkg
theorem Jvw:AE Jf3:=stp Jja JB6 λ_=>by kernel_rfl
abbrev Jje:=sigE 16 Jzi J1E::Jf3
theorem JyT:AE Jje:=stp Jm8 Jvw λ_=>by kernel_rfl
abbrev JiM:=sigE 15 Jxl J1x::Jje
theorem Jyk:AE JiM:=stp Jlu JyT λ_=>by kernel_rfl
abbrev JeB:=sigE 5 JgL J3R::JiM
theorem JgM:AE JeB:=stp J8A Jyk λ_=>by kernel_rfl
end
end Go.Am
end
section
namespace Go.Proofs
open Go.Shelf Go.RowKit Go.Lib
set_option linter.unusedSimpArgs false
set_option linter.unusedVariables false
def Tryz.ρG:Ren where
 f:=fun
  |4=>44
  |n=>n
 t:=fun
  |25=>60
  |22=>26
  |n=>n
 g:=λn=>n
theorem Tryz.growE:Lays8.n4 Tryz.prog Tryz.ρG where
 mixed:=by kernel_rfl
 f4:=⟨"slices.Grow[[]pagemend/api.Entry,pagemend/api.Entry]",by decide,by kernel_rfl⟩
 t0:=Tryz.underlying0
 a0:=Tryz.isAgg0
 z0:=Tryz.sizeOf0
 v0:=Tryz.zeroValue0
 t3:=Tryz.underlying3
 a3:=Tryz.isAgg3
 z3:=Tryz.sizeOf3
 v3:=Tryz.zeroValue3
 t4:=Tryz.underlying4
 a4:=Tryz.isAgg4
 z4:=Tryz.sizeOf4
 v4:=Tryz.zeroValue4
 t9:=Tryz.underlying9
 a9:=Tryz.isAgg9
 z9:=Tryz.sizeOf9
 v9:=Tryz.zeroValue9
 t20:=Tryz.underlying20
 a20:=Tryz.isAgg20
 z20:=Tryz.sizeOf20
 v20:=Tryz.zeroValue20
 t22:=Tryz.underlying26
 a22:=Tryz.isAgg26
 z22:=Tryz.sizeOf26
 v22:=Tryz.zeroValue26
theorem Tryz.ent_size:(Tryz.prog.info? 60).map (·.size)=some 13:=by kernel_rfl
theorem Tryz.ent_bytes:(Tryz.prog.info? 60).map (·.bytes)=some 128:=by kernel_rfl
theorem Tryz.ent_cells:(Tryz.prog.info? 60).map (λi=>i.zero.map (·.cells.size))=some (some 13):=by kernel_rfl
theorem Jt1{B b:Nat}{w:World}(hb:B<=b): ∀(vs:List Value) (o:Nat) (W:World),Below B w W->Below B w (W.setCells b o vs)
 |[],_,_,h=>h
 |v::vs,o,W,h=>Jt1 hb vs (o+1) _ (Below.setCell h (p:=⟨b,o,none⟩) hb v)
abbrev Ju9:=Am.CV 13
theorem Jw1{w W:World}{v:Value}{n:Nat}{cs:List Value}(h:Ju9 w v n cs)(hb:Below w.heap.size w W):Src Tryz.prog 13 26 v n cs W:=by
 obtain⟨⟨a,c,rfl,hs⟩,hl,h1⟩:=h;rcases hs with rfl|⟨r,o,rfl,hr,hc⟩
 ·have hn:n=0:=by simp at hl;omega
  subst hn;cases a with
  |none=>exact⟨.inl ⟨_,Tryz.underlying26⟩,λ_=>rfl,run_firstCells_none W 13 0 0 c,run_firstCells_none W.drew 13 0 0 c,rfl,h1⟩
  |some a=>exact⟨.inl ⟨_,Tryz.underlying26⟩,λ_=>rfl,run_firstCells_some W 13 0 a 0 c [] rfl (λj u h=>by simp at h),run_firstCells_some W.drew 13 0 a 0 c [] rfl (λj u h=>by simp at h),rfl,h1⟩
 ·exact Src.ofSlice W Tryz.underlying26 ⟨r,o,none⟩ n c cs hl (λj u hj=>by rw[Addr.add_lit,hb.cell hr];exact hc j u hj) h1
theorem JEk(b:Nat)(vs:List Value)(o:Nat)(w:World)(h: ∀j,j<vs.length->(w.cell? ⟨b,o+j,none⟩).isSome=true)(k:Nat)(hk:(w.cell? ⟨b,k,none⟩).isSome=true):((w.setCells b o vs).cell? ⟨b,k,none⟩).isSome=true:=by
 by_cases e:o<=k/\k<o+vs.length
 ·have:=World.cell?_setCells_in b vs o w h (k-o) (by omega);rw[show o+(k-o)=k by omega]at this;rw[this];rfl
 ·rw[World.cell?_setCells_out b _ _ _ _ (λ_ _=>by dsimp only;omega)];exact hk
structure JoK(B m:Nat)(l:List Value)(w W:World):Prop where
 below:Below B w W
 sp: ∀j,j<m->(W.cell? ⟨B,j,none⟩).isSome=true
 fz: ∀j,j<m->W.frozen? ⟨B,j,none⟩=false
 at_: ∀(j:Nat) u,l[j]?=some u->W.cell? ⟨B,j,none⟩=some u
theorem JoK.step{B m:Nat}{l cs:List Value}{w W:World}(h:JoK B m l w W)(hm:l.length+cs.length<=m):JoK B m (l++cs) w (W.setCells B l.length cs):=by
 have hs: ∀j,j<cs.length->(W.cell? ⟨B,l.length+j,none⟩).isSome=true:=λj hj=>h.sp _ (by omega);refine⟨Jt1 (Nat.le_refl _) _ _ _ h.below,λj hj=>JEk B _ _ _ hs j (h.sp j hj),λj hj=>?_,λj u hj=>?_⟩
 ·rw[World.frozen?_setCells];exact h.fz j hj
 ·by_cases hk:j<l.length
  ·rw[List.getElem?_append_left hk]at hj;rw[World.cell?_setCells_out B _ _ _ _ (λ_ _=>.inl hk)];exact h.at_ j u hj
  ·rw[List.getElem?_append_right (by omega)]at hj;have e:j-l.length<cs.length:=(List.getElem?_eq_some_iff.1 hj).1;have:=World.cell?_setCells_in B _ l.length W hs (j-l.length) e;rw[show l.length+(j-l.length)=j by omega]at this;rw[this,<-hj,List.getElem?_eq_getElem e]
theorem JI3(w:World)(c:Array Value)(t:TypeId)(m:Nat)(hm:m<=c.size):JoK w.heap.size m [] w (w.drew.alloc (.cells c t)):=by
 have e:(w.drew.alloc (.cells c t)).heap[w.heap.size]?=some (.cells c t):=Array.getElem?_push_size;refine⟨(Below.refl w.heap.size w).drew.alloc (Nat.le_refl _) _,λj hj=>?_,λj hj=>World.frozen?_alloc_new _ _ _ _,λj u h=>by simp at h⟩;have hz:j<c.size:=by omega
 rw[cell_of_heap e,Array.getElem?_eq_getElem hz];rfl
set_option maxHeartbeats 4000000 in
set_option maxRecDepth 100000 in
theorem Tryz.conc(r o S g k:Nat)(v0 v1:Value)(n x:List Value)(w:World)(J:w.cell? ⟨r,o,none⟩=some v0)(h1:w.cell? ⟨r,o+1,none⟩=some v1)
  (I:Ju9 w v0 g n) (q1:Ju9 w v1 k x) (hN:1<=g+k) (hb:g+k<=8192):
  Calls Tryz.prog 31 #[.slice (some ⟨r,o,none⟩) 2 S] w λe w'=> ∃G,e=.returned (.slice (some ⟨w.heap.size,0,none⟩) (g+k) G)/\g+k<=G/\JoK w.heap.size ((g+k)*13) (n++x) w w':=by
 have mixed:Tryz.prog.follows .mixedOrders=true:=by kernel_rfl
 have hr:r<w.heap.size:=block_lt_of_cell J;obtain⟨a0,T,rfl,s0⟩:=I.shape;obtain⟨a1,O,rfl,s1⟩:=q1.shape;have a2:Go.RowKit.wrap64 ((0:Int)+(g:Int))=(g:Int):=by unfold Go.RowKit.wrap64;omega
 have Y:Go.RowKit.wrap64 ((g:Int)+(k:Int))=((g+k:Nat):Int):=by unfold Go.RowKit.wrap64;omega
 have Z: ¬((g:Int)<0):=by omega
 have W: ¬(((g+k:Nat):Int)<0):=by omega
 go_enter Tryz.func31,Tryz.ntmps31
 go_wp2
 refine wp_loop_rounds 3 ?_;rw[rounds_succ]
 go_wp2
 rw[rounds_succ]
 go_wp2
 rw[rounds_succ];obtain⟨D,y,v⟩:=Option.map_eq_some_iff.1 Tryz.ent_size;have P:D.bytes=128:=by have:=Tryz.ent_bytes;rw[y]at this;simpa using this
 obtain⟨z,K,N⟩: ∃z,D.zero=some z/\z.cells.size=13:=by have:=Tryz.ent_cells;rw[y]at this;simp at this;exact this
 have H:=Any8.slices_Grow_grow Tryz.growE D z y K (by omega) none 0 0 (g+k) [] w (Nat.le_refl _) (by omega) (by rw[P];omega) (by omega) (by simp) (λ_=>rfl) (λa h=>by cases h)
 go_wp2_with (go_at_call 44;refine H.mono ?_)
 rintro e C ⟨rfl,M⟩;have U:=grownCap_ge w (0+(g+k)) 0 60;obtain⟨G,E⟩: ∃G,G=grownCap w (0+(g+k)) 0 60:=⟨_,rfl⟩;have B:grownCap w (0+(g+k)) 0 (Tryz.ρG.t 25)=G:=E.symm;rw[<-E]at U;have A:JoK w.heap.size ((g+k)*13) [] w C:=by
  rw[M];refine JI3 w _ _ _ ?_;simp[size_zeroCells,N]
  first|done|omega
 rw[B];clear M H E B;have k0:C.cell? ⟨r,o,none⟩=some (.slice a0 g T):=by rw[A.below.cell hr];exact J
 have k1:C.cell? ⟨r,o+1,none⟩=some (.slice a1 k O):=by rw[A.below.cell hr];exact h1
 clear J h1
 go_wp2
 refine wp_loop_rounds 3 ?_;rw[rounds_succ];have L:=Jw1 I A.below;rw[<-v]at L;have V:=I.len;have L1:=q1.len
 go_wp2_with (at_builtin;refine wpList_append_room_src _ rfl _ _ 26 26 rfl 60 D Tryz.underlying26 y w.heap.size 0 0 G rfl _ rfl g n L (by omega) (by rw[v];intro j hj;exact A.sp _ (by omega)) (by rw[v];intro j hj;exact A.fz _ (by omega)) ?_)
 have q:JoK w.heap.size ((g+k)*13) n w (C.setCells w.heap.size 0 n):=A.step (l:=[]) (by simp;omega);generalize C.setCells w.heap.size 0 n=Q at q⊢;have k1:Q.cell? ⟨r,o+1,none⟩=some (.slice a1 k O):=by rw[q.below.cell hr,<-A.below.cell hr];exact k1
 have R:=Jw1 q1 q.below;rw[<-v]at R;rw[rounds_succ]
 go_wp2_with (at_builtin;refine wpList_append_room_src _ rfl _ _ 26 26 rfl 60 D Tryz.underlying26 y w.heap.size 0 g G rfl _ rfl k x R (by omega) (by rw[v];intro j hj;exact q.sp _ (by omega)) (by rw[v];intro j hj;exact q.fz _ (by omega)) ?_)
 have F:JoK w.heap.size ((g+k)*13) (n++x) w (Q.setCells w.heap.size n.length x):=q.step (by omega);rw[rounds_succ]
 go_wp2
 go_ret
 refine⟨G,rfl,by omega,?_⟩;rw[V]at F;exact F
theorem Tryz.conc_nil{w:World}{v:Value}{cs:List Value}(h:Ju9 w v 0 cs)(ty:TypeId):(Builtin.append_ #[26,26] ty #[.slice none 0 0,v]).run Tryz.prog w=.ok (.slice none 0 0) w:=by
 obtain⟨g,e,j⟩:=Option.map_eq_some_iff.1 Tryz.ent_size;have k:g.bytes=128:=by have:=Tryz.ent_bytes;rw[e]at this;simpa using this
 obtain⟨z,n,o⟩: ∃z,g.zero=some z/\z.cells.size=13:=by have:=Tryz.ent_cells;rw[e]at this;simp at this;exact this
 exact(Am.Src.gen (P:=Tryz.prog) (esz:=13) (bytes:=128) (t:=26) (ut:=26) (ty:=ty) (el:=60) (by kernel_rfl) (by kernel_rfl) e j k n (Jw1 h (Below.refl _ _))).nil rfl
set_option maxHeartbeats 4000000 in
set_option maxRecDepth 100000 in
theorem Tryz.conc0(r o n:Nat)(v0 v1:Value)(h k:List Value)(w:World)(v:w.cell? ⟨r,o,none⟩=some v0)(h1:w.cell? ⟨r,o+1,none⟩=some v1)
  (g:Ju9 w v0 0 h) (q1:Ju9 w v1 0 k):
  Calls Tryz.prog 31 #[.slice (some ⟨r,o,none⟩) 2 n] w λe w'=>e=.returned (.slice none 0 0)/\w'=w:=by
 have mixed:Tryz.prog.follows .mixedOrders=true:=by kernel_rfl
 have q:=λty=>Tryz.conc_nil g ty;have m1:=λty=>Tryz.conc_nil q1 ty;obtain⟨a0,x,rfl,s0⟩:=g.shape;obtain⟨a1,z,rfl,s1⟩:=q1.shape;have j:=Any8.slices_Grow_room Tryz.growE none 0 0 0 w (Nat.le_refl _) (by omega) (by omega) (by omega)
 go_enter Tryz.func31,Tryz.ntmps31
 go_wp2
 refine wp_loop_rounds 3 ?_;rw[rounds_succ]
 go_wp2
 rw[rounds_succ]
 go_wp2
 rw[rounds_succ]
 go_wp2_with (go_at_call 44;refine j.mono ?_)
 rintro e y ⟨rfl,rfl⟩
 go_wp2
 refine wp_loop_rounds 3 ?_;rw[rounds_succ]
 go_wp2_with (at_builtin;refine Lib.wpList_append_run _ rfl _ _ _ _ rfl _ _ rfl rfl _ _ (q _) ?_)
 rw[rounds_succ]
 go_wp2_with (at_builtin;refine Lib.wpList_append_run _ rfl _ _ _ _ rfl _ _ rfl rfl _ _ (m1 _) ?_)
 rw[rounds_succ]
 go_wp2
 go_ret
 exact⟨rfl,rfl⟩
theorem Jrr(args:List Am.AV)(blks:List Am.Blk)(r:Am.Res)(h:Am.Jpl 13 args blks=some r):Am.J8R Tryz.prog 31 args blks r:=by
 refine Am.JMw (by decide) ⟨_,Tryz.func31,by decide,by decide⟩ (λr o y k q v0 v1 g j w x h1 v q1 hn=>?_) args blks r h;by_cases hz:k+q=0
 ·obtain rfl:k=0:=by omega
  obtain rfl:q=0:=by omega
  refine(Tryz.conc0 r o y v0 v1 g j w x h1 v q1).mono ?_;rintro e w' ⟨rfl,rfl⟩;exact⟨none,0,rfl,Nat.le_refl _,Below.refl _ _,.inl rfl⟩
 ·refine(Tryz.conc r o y k q v0 v1 g j w x h1 v q1 (by omega) hn).mono ?_;rintro e w' ⟨G,rfl,z,n⟩;refine⟨_,G,rfl,z,n.below,.inr ⟨rfl,?_,n.at_⟩⟩;have:=n.sp 0 (by omega);obtain⟨u,hu⟩:=Option.isSome_iff_exists.1 this;exact block_lt_of_cell hu
end Go.Proofs
end
section
end
