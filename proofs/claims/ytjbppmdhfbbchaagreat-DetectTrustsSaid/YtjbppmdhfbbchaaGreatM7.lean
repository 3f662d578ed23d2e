/-
  Parts of a proof.
-/
import Derived.Test.YtjbppmdhfbbchaaGreatChecked
import Derived.WalkKit
import Derived.Maps.Own
import Derived.Maps.OwnSet
import Derived.Shelf.Strings.Repeat
import Derived.Shelf.Strings.Builder1
import Derived.Shelf.Lays
import Derived.Test.YtjbppmdhfbbchaaGreatProg
import Derived.Lib.Agree
import Derived.KernelRfl
import Derived.BigCall
import Derived.Test.YtjbppmdhfbbchaaGreatM2
import Derived.Test.YtjbppmdhfbbchaaGreatM3
import Derived.Test.YtjbppmdhfbbchaaGreatM4
import Derived.Test.YtjbppmdhfbbchaaGreatM6
set_option linter.unusedSimpArgs false
set_option linter.unusedVariables false
section
namespace Go.Am
set_option maxRecDepth 20000
set_option maxHeartbeats 4000000
variable (p:PS)
noncomputable section
abbrev Ji0:=sigE 123 Jy6 J5n::[]
theorem Jzd:AE Ji0:=stp JjI ae0 λ_=>by kernel_rfl
abbrev JcN:=sigE 179 JpV J4t::Ji0
theorem Jp1:AE JcN:=stp JdI Jzd λ_=>by kernel_rfl
abbrev Ji5:=sigE 178 Jyx J9q::JcN
theorem Jxu:AE Ji5:=stp Jjo Jp1 λ_=>by kernel_rfl
abbrev JgK:=sigE 130 JyC J74::Ji5
theorem Jyn:AE JgK:=stp JkJ Jxu λ_=>by kernel_rfl
abbrev Jov:=sigE 171 JGF J4o::JgK
theorem JGM:AE Jov:=stp Jq2 Jyn λ_=>by kernel_rfl
abbrev Jex:=sigE 170 JtZ J1Q::Jov
theorem JuH:AE Jex:=stp JfW JGM λ_=>by kernel_rfl
abbrev Jen:=sigE 172 JuQ J7A::Jex
theorem Juj:AE Jen:=stp JfB JuH λ_=>by kernel_rfl
abbrev Jeo:=sigE 173 Ju2 J7E::Jen
theorem JtX:AE Jeo:=stp JfQ Juj λ_=>by kernel_rfl
abbrev JkD:=sigE 124 JAW JCt::Jeo
theorem JCF:AE JkD:=stp Jn6 JtX λ_=>by kernel_rfl
abbrev Jje:=sigE 63 JCE Jao::JkD
theorem JCH:AE Jje:=stp Jnc JCF λ_=>by kernel_rfl
abbrev Jll:=sigE 181 JCv JaM::Jje
theorem JCd:AE Jll:=stp JoL JCH λ_=>by kernel_rfl
abbrev Jgy:=sigE 136 Jvx J6i::Jll
theorem JwW:AE Jgy:=stp Ji2 JCd λ_=>by kernel_rfl
abbrev Jfz:=sigE 146 JwU J2R::Jgy
theorem JwO:AE Jfz:=stp JhL JwW λ_=>by kernel_rfl
abbrev JmP:=sigE 127 JHf J3E::Jfz
theorem JFk:AE JmP:=stp Jqt JwO λ_=>by kernel_rfl
abbrev Jmv:=sigE 174 JF8 J8G::JmP
theorem JED:AE Jmv:=stp Jqq JFk λ_=>by kernel_rfl
abbrev Jl2:=sigE 126 JBK J7W::Jmv
theorem JB8:AE Jl2:=stp JnK JED λ_=>by kernel_rfl
abbrev JnB:=sigE 198 JHR Jcn::Jl2
theorem JDG:AE JnB:=stp Jqc JB8 λ_=>by kernel_rfl
abbrev Jim:=sigE 246 Jyz J9o::JnB
theorem JxS:AE Jim:=stp Jjp JDG λ_=>by kernel_rfl
abbrev J3p:=sigE 210 J7e J0W::Jim
theorem J7h:AE J3p:=stp J2v JxS λ_=>by kernel_rfl
abbrev Jr3:=sigE 199 JJt J8b::J3p
theorem JHV:AE Jr3:=stp JtB J7h λ_=>by kernel_rfl
abbrev Jmx:=sigE 147 JH9 J76::Jr3
theorem JE5:AE Jmx:=stp Jqw JHV λ_=>by kernel_rfl
abbrev Jre:=sigE 212 JJk J5e::Jmx
theorem JHU:AE Jre:=stp JsV JE5 λ_=>by kernel_rfl
abbrev Jeu:=sigE 157 JtP J5x::Jre
theorem JuU:AE Jeu:=stp JfD JHU λ_=>by kernel_rfl
abbrev JeD:=sigE 202 Jug J7F::Jeu
theorem JtO:AE JeD:=stp JgF JuU λ_=>by kernel_rfl
abbrev Jfy:=sigE 163 JvN J6o::JeD
theorem Jwk:AE Jfy:=stp Jht JtO λ_=>by kernel_rfl
abbrev JdG:=sigE 100 JsB J3O::Jfy
theorem Jsy:AE JdG:=stp Jer Jwk λ_=>by kernel_rfl
abbrev Jns:=sigE 125 JEK Jbu::JdG
theorem JE7:AE Jns:=stp Jri Jsy λ_=>by kernel_rfl
abbrev Jjb:=sigE 201 JCp J68::Jns
theorem JBh:AE Jjb:=stp JnN JE7 λ_=>by kernel_rfl
abbrev J1O:=sigE 289 J3Z J0z::Jjb
theorem J41:AE J1O:=stp J28 JBh λ_=>by kernel_rfl
abbrev Jms:=sigE 247 JGx Jcj::J1O
theorem JHd:AE Jms:=stp Jqd J41 λ_=>by kernel_rfl
abbrev JmH:=sigE 203 JFu JbL::Jms
theorem JHo:AE JmH:=stp JqS JHd λ_=>by kernel_rfl
abbrev JjJ:=sigE 200 JCj J7P::JmH
theorem JAu:AE JjJ:=stp JnQ JHo λ_=>by kernel_rfl
abbrev Jey:=sigE 204 Jun J7v::JjJ
theorem Juu:AE Jey:=stp Jg8 JAu λ_=>by kernel_rfl
abbrev J3j:=sigE 211 J7p J1j::Jey
theorem J7k:AE J3j:=stp J2u Juu λ_=>by kernel_rfl
abbrev J2W:=sigE 156 J6E J1f::J3j
theorem J6M:AE J2W:=stp J29 J7k λ_=>by kernel_rfl
abbrev Jke:=sigE 148 JCK J80::J2W
theorem JBt:AE Jke:=stp JoG J6M λ_=>by kernel_rfl
abbrev Jb9:=sigE 208 JlJ J2J::Jke
theorem Jml:AE Jb9:=stp JbQ JBt λ_=>by kernel_rfl
abbrev Jbn:=sigE 207 Jlw J58::Jb9
theorem Jlx:AE Jbn:=stp Jcl Jml λ_=>by kernel_rfl
abbrev J46:=sigE 249 J8B J1a::Jbn
theorem J8D:AE J46:=stp J4U Jlx λ_=>by kernel_rfl
abbrev J3x:=sigE 206 J7x J0m::J46
theorem J7t:AE J3x:=stp J4k J8D λ_=>by kernel_rfl
abbrev JdP:=sigE 150 Jst J3P::J3x
theorem Jsu:AE JdP:=stp Jez J7t λ_=>by kernel_rfl
abbrev J8x:=sigE 248 JfN J1x::JdP
theorem JfZ:AE J8x:=stp J8U Jsu λ_=>by kernel_rfl
abbrev Jbe:=sigE 205 Jm0 J56::J8x
theorem Jm3:AE Jbe:=stp Jch JfZ λ_=>by kernel_rfl
abbrev Jbi:=sigE 149 Jmb J3K::Jbe
theorem JlZ:AE Jbi:=stp Jcp Jm3 λ_=>by kernel_rfl
abbrev JdA:=sigE 153 JsF J6Q::Jbi
theorem JsS:AE JdA:=stp Jel JlZ λ_=>by kernel_rfl
abbrev J4p:=sigE 209 J9s J1R::JdA
theorem J9E:AE J4p:=stp J5t JsS λ_=>by kernel_rfl
abbrev J3T:=sigE 152 J8k J17::J4p
theorem J8i:AE J3T:=stp J4u J9E λ_=>by kernel_rfl
abbrev JdD:=sigE 155 Jsm J6Y::J3T
theorem Jso:AE JdD:=stp JeG J8i λ_=>by kernel_rfl
abbrev J3k:=sigE 210 J7f J0B::JdD
theorem J7q:AE J3k:=stp J2v Jso λ_=>by kernel_rfl
abbrev J2V:=sigE 154 J6B J0p::J3k
theorem J6D:AE J2V:=stp J3w J7q λ_=>by kernel_rfl
abbrev JdE:=sigE 151 Jsq J6P::J2V
theorem Jsr:AE JdE:=stp Jep J6D λ_=>by kernel_rfl
abbrev J3l:=sigE 211 J7j J0C::JdE
theorem J7c:AE J3l:=stp J2u Jsr λ_=>by kernel_rfl
abbrev J2T:=sigE 156 J6O J0d::J3l
theorem J6K:AE J2T:=stp J29 J7c λ_=>by kernel_rfl
abbrev JgN:=sigE 93 Jzb J3o::J2T
theorem JzJ:AE JgN:=stp JjM J6K λ_=>by kernel_rfl
abbrev Jew:=sigE 254 JtS J7G::JgN
theorem Ju8:AE Jew:=stp Jgi JzJ λ_=>by kernel_rfl
abbrev J3m:=sigE 253 J7d J0V::Jew
theorem J7g:AE J3m:=stp J44 Ju8 λ_=>by kernel_rfl
abbrev Jl5:=sigE 216 JBn J6a::J3m
theorem JBB:AE Jl5:=stp Jo1 J7g λ_=>by kernel_rfl
abbrev Jtg:=sigE 215 JLA J9C::Jl5
theorem JLi:AE Jtg:=stp Jwe JBB λ_=>by kernel_rfl
abbrev JfY:=sigE 160 Jvy J4x::Jtg
theorem Jx1:AE JfY:=stp JhV JLi λ_=>by kernel_rfl
abbrev JjX:=sigE 95 JAL J5X::JfY
theorem JCQ:AE JjX:=stp JnO Jx1 λ_=>by kernel_rfl
abbrev JcB:=sigE 168 JpJ J6q::JjX
theorem JpW:AE JcB:=stp JdW JCQ λ_=>by kernel_rfl
abbrev JpK:=sigE 109 JJ0 Ja2::JcB
theorem JJg:AE JpK:=stp Jtd JpW λ_=>by kernel_rfl
abbrev Jeq:=sigE 129 JtV J4h::JpK
theorem Juh:AE Jeq:=λp=>⟨JQA rfl,JJg p⟩
abbrev JnE:=sigE 250 JGK Jc8::Jeq
theorem JFZ:AE JnE:=stp JpB Juh λ_=>by kernel_rfl
abbrev Jro:=sigE 108 JIO J5f::JnE
theorem JIW:AE Jro:=λp=>⟨JQ7 rfl,JFZ p⟩
abbrev Jc0:=sigE 128 JoX J5N::Jro
theorem JoV:AE Jc0:=stp JcC JIW λ_=>by kernel_rfl
abbrev Jk1:=sigE 74 JAv JaJ::Jc0
theorem JAF:AE Jk1:=stp Jnp JoV λ_=>by kernel_rfl
abbrev JqE:=sigE 113 JI1 J8c::Jk1
theorem JII:AE JqE:=stp Jtk JAF λ_=>by kernel_rfl
abbrev JkV:=sigE 251 JAR J4P::JqE
theorem JAK:AE JkV:=stp Jmu JII λ_=>by kernel_rfl
abbrev Jp9:=sigE 252 JIm Jdv::JkV
theorem JIS:AE Jp9:=stp Jtw JAK λ_=>by kernel_rfl
abbrev Jlc:=sigE 213 JCs JaS::Jp9
theorem JD6:AE Jlc:=stp Joi JIS λ_=>by kernel_rfl
abbrev JtF:=sigE 214 JLg Jbw::Jlc
theorem JMp:AE JtF:=stp Jw1 JD6 λ_=>by kernel_rfl
abbrev Jg4:=sigE 159 Jx3 J2S::JtF
theorem JvA:AE Jg4:=stp Jh4 JMp λ_=>by kernel_rfl
abbrev JdO:=sigE 158 JsA J6V::Jg4
theorem JsO:AE JdO:=stp JeE JvA λ_=>by kernel_rfl
abbrev JdC:=sigE 94 JsH J1W::JdO
theorem Jsn:AE JdC:=stp JeL JsO λ_=>by kernel_rfl
abbrev J9a:=sigE 38 JAB J2E::JdC
theorem Job:AE J9a:=stp Jnl Jsn λ_=>by kernel_rfl
theorem JsJ(r x):onO (Jgf g_draw_Codes_Next x) (λy=>JuY (TG.of (sigE 23 g_draw_Codes_Next r::J9a)) J9Y y.1 y.2 (Jdt g_draw_Codes_Next))=J3N r x:=by kernel_rfl
abbrev JdS:=sigE 23 g_draw_Codes_Next Jn::J9a
theorem JsN:AE JdS:=λp=>⟨JEj (fn:=J9Y) (l:=J9a) rfl (Job p) rfl JsJ 100,Job p⟩
abbrev JdJ:=sigE 71 Jsk J2P::JdS
theorem Jss:AE JdJ:=stp Jej JsN λ_=>by kernel_rfl
abbrev JdH:=sigE 68 JsK J4X::JdJ
theorem Jsj:AE JdH:=stp Jev Jss λ_=>by kernel_rfl
abbrev JdZ:=sigE 22 JsL J6R::JdH
theorem Jsx:AE JdZ:=stp Jes Jsj λ_=>by kernel_rfl
abbrev JeP:=sigE 44 Jut J0l::JdZ
theorem Jui:AE JeP:=stp Jgv Jsx λ_=>by kernel_rfl
abbrev Jc5:=sigE 196 JoP J45::JeP
theorem JoU:AE Jc5:=stp JcD Jui λ_=>by kernel_rfl
abbrev JdT:=sigE 144 Jsw J6W::Jc5
theorem Jsz:AE JdT:=stp JeI JoU λ_=>by kernel_rfl
abbrev Jab:=sigE 87 Jjk J4B::JdT
theorem JkX:AE Jab:=stp Jb4 Jsz λ_=>by kernel_rfl
abbrev JgL:=sigE 186 JyN J9n::Jab
theorem Jz8:AE JgL:=stp Jj7 JkX λ_=>by kernel_rfl
abbrev Jrx:=sigE 142 JIi Jdy::JgL
theorem JJ8:AE Jrx:=stp JsT Jz8 λ_=>by kernel_rfl
abbrev JqQ:=sigE 141 JIu JI4::Jrx
theorem JI0:AE JqQ:=stp Jt7 JJ8 λ_=>by kernel_rfl
abbrev Jpf:=sigE 139 JJ4 Ja0::JqQ
theorem JIl:AE Jpf:=stp JtA JI0 λ_=>by kernel_rfl
abbrev Jrw:=sigE 140 JIt Ja5::Jpf
theorem JJq:AE Jrw:=stp Jtl JIl λ_=>by kernel_rfl
abbrev JrH:=sigE 82 JI7 J87::Jrw
theorem JIo:AE JrH:=stp Jto JJq λ_=>by kernel_rfl
abbrev Jpg:=sigE 85 JIM Jdz::JrH
theorem JIg:AE Jpg:=stp JtG JIo λ_=>by kernel_rfl
abbrev Jhf:=sigE 132 Jz4 J5j::Jpg
theorem Jy9:AE Jhf:=stp Jjr JIg λ_=>by kernel_rfl
abbrev JdL:=sigE 180 JsQ J1V::Jhf
theorem JsI:AE JdL:=stp Jet Jy9 λ_=>by kernel_rfl
abbrev JkM:=sigE 135 JAy J64::JdL
theorem JCM:AE JkM:=stp Joo JsI λ_=>by kernel_rfl
abbrev Jj2:=sigE 131 JCN J66::JkM
theorem JBb:AE Jj2:=stp Jos JCM λ_=>by kernel_rfl
abbrev Jks:=sigE 76 JAD J0D::Jj2
theorem JAX:AE Jks:=stp JnH JBb λ_=>by kernel_rfl
abbrev Joj:=sigE 105 JE0 J2n::Jks
theorem JGu:AE Joj:=stp Jqj JAX λ_=>by kernel_rfl
abbrev Jj5:=sigE 69 JAq J0f::Joj
theorem JAE:AE Jj5:=stp Jn5 JGu λ_=>by kernel_rfl
abbrev JkO:=sigE 42 JCU J38::Jj5
theorem JAo:AE JkO:=stp Jnb JAE λ_=>by kernel_rfl
abbrev JmZ:=sigE 43 JHk J5C::JkO
theorem JHM:AE JmZ:=stp Jpr JAo λ_=>by kernel_rfl
abbrev Jhk:=sigE 195 Jzc Jz::JmZ
theorem Jzq:AE Jhk:=stp Jjq JHM λ_=>by kernel_rfl
abbrev Jl1:=sigE 330 JCX J2m::Jhk
theorem JAx:AE Jl1:=stp JmG Jzq λ_=>by kernel_rfl
abbrev JkN:=sigE 292 JBO J12::Jl1
theorem JCg:AE JkN:=stp JnC JAx λ_=>by kernel_rfl
abbrev JoA:=sigE 293 JGU J1w::JkN
theorem JE4:AE JoA:=stp Jpi JCg λ_=>by kernel_rfl
abbrev Jj8:=sigE 262 JCu J7V::JoA
theorem JBl:AE Jj8:=stp Jn4 JE4 λ_=>by kernel_rfl
abbrev JkB:=sigE 279 JCn J4L::Jj8
theorem JCb:AE JkB:=stp JoK JBl λ_=>by kernel_rfl
abbrev JeO:=sigE 341 Jur J2g::JkB
theorem Jvf:AE JeO:=stp JfI JCb λ_=>by kernel_rfl
abbrev JkW:=sigE 353 JBE J60::JeO
theorem JCI:AE JkW:=stp JoI Jvf λ_=>by kernel_rfl
abbrev JoF:=sigE 354 JEH J92::JkW
theorem JFp:AE JoF:=stp Jq1 JCI λ_=>by kernel_rfl
abbrev Joc:=sigE 355 JGf J33::JoF
theorem JEu:AE Joc:=stp Jqb JFp λ_=>by kernel_rfl
abbrev JjC:=sigE 318 JB2 J1s::Joc
theorem JCT:AE JjC:=stp Jo9 JEu λ_=>by kernel_rfl
abbrev Jlb:=sigE 134 JC4 J1X::JjC
theorem JBY:AE Jlb:=stp JmR JCT λ_=>by kernel_rfl
abbrev Jgx:=sigE 133 Jwn J1K::Jlb
theorem JvV:AE Jgx:=stp JhO JBY λ_=>by kernel_rfl
abbrev Jl8:=sigE 300 JAs J1D::Jgx
theorem JAz:AE Jl8:=stp Jnm JvV λ_=>by kernel_rfl
abbrev Jl6:=sigE 268 JCx J0g::Jl8
theorem JBr:AE Jl6:=stp JoD JAz λ_=>by kernel_rfl
abbrev JpP:=sigE 356 JIz J8g::Jl6
theorem JIf:AE JpP:=stp Jtz JBr λ_=>by kernel_rfl
abbrev Jjx:=sigE 319 JD7 J1H::JpP
theorem JCo:AE Jjx:=stp Jn0 JIf λ_=>by kernel_rfl
abbrev JcK:=sigE 320 Jq9 J1N::Jjx
theorem Jrg:AE JcK:=stp JdF JCo λ_=>by kernel_rfl
abbrev Jkq:=sigE 278 JBs J4S::JcK
theorem JBa:AE Jkq:=stp Jnj Jrg λ_=>by kernel_rfl
abbrev Jkb:=sigE 242 JBX JM::Jkq
theorem JAZ:AE Jkb:=stp Jo8 JBa λ_=>by kernel_rfl
abbrev Jl0:=sigE 234 JC8 JaH::Jkb
theorem JAO:AE Jl0:=stp Jo5 JAZ λ_=>by kernel_rfl
abbrev JjT:=sigE 187 JD1 Jan::Jl0
theorem JAm:AE JjT:=stp JmN JAO λ_=>by kernel_rfl
abbrev Jgl:=sigE 70 JvU J07::JjT
theorem Jxf:AE Jgl:=stp JhU JAm λ_=>by kernel_rfl
abbrev Jhx:=sigE 310 Jxv J1p::Jgl
theorem JyX:AE Jhx:=stp JjS Jxf λ_=>by kernel_rfl
abbrev Jrk:=sigE 232 JID J0N::Jhx
theorem JIC:AE Jrk:=stp JtI JyX λ_=>by kernel_rfl
abbrev JqO:=sigE 349 JIL Jdf::Jrk
theorem JIc:AE JqO:=stp Jt2 JIC λ_=>by kernel_rfl
abbrev JnV:=sigE 312 JHQ J31::JqO
theorem JHL:AE JnV:=stp JqU JIc λ_=>by kernel_rfl
abbrev Jom:=sigE 309 JEP J0R::JnV
theorem JFK:AE Jom:=stp JpC JHL λ_=>by kernel_rfl
abbrev JgZ:=sigE 346 Jzr J5k::Jom
theorem JyJ:AE JgZ:=stp JiZ JFK λ_=>by kernel_rfl
abbrev Jr4:=sigE 347 JI5 J2Z::JgZ
theorem JHT:AE Jr4:=stp Jtr JyJ λ_=>by kernel_rfl
abbrev Jhl:=sigE 348 Jy0 J2o::Jr4
theorem Jyu:AE Jhl:=stp Jja JHT λ_=>by kernel_rfl
abbrev JnZ:=sigE 311 JEB J0G::Jhl
theorem JFb:AE JnZ:=stp Jpx Jyu λ_=>by kernel_rfl
abbrev JoM:=sigE 269 JEV J1M::JnZ
theorem JEC:AE JoM:=stp JpG JFb λ_=>by kernel_rfl
abbrev Jok:=sigE 237 JHw J1v::JoM
theorem JEx:AE Jok:=stp JpX JEC λ_=>by kernel_rfl
abbrev JqT:=sigE 266 JJe J32::Jok
theorem JIQ:AE JqT:=stp Jt9 JEx λ_=>by kernel_rfl
abbrev JoC:=sigE 281 JEZ J4q::JqT
theorem JFi:AE JoC:=stp Jrn JIQ λ_=>by kernel_rfl
abbrev Jps:=sigE 274 JI9 J1m::JoC
theorem JIE:AE Jps:=stp Jtb JFi λ_=>by kernel_rfl
abbrev JpZ:=sigE 88 JIP JR::Jps
theorem JJa:AE JpZ:=stp Jtt JIE λ_=>by kernel_rfl
abbrev Jib:=sigE 308 Jy4 J9G::JpZ
theorem Jyb:AE Jib:=stp Jkc JJa λ_=>by kernel_rfl
abbrev JfX:=sigE 345 JwC J6n::Jib
theorem Jx6:AE JfX:=stp Jhg Jyb λ_=>by kernel_rfl
abbrev Jh5:=sigE 307 Jzn J9j::JfX
theorem Jyd:AE Jh5:=stp Jka Jx6 λ_=>by kernel_rfl
abbrev Jjn:=sigE 306 JD3 J7Z::Jh5
theorem JBy:AE Jjn:=stp JmI Jyd λ_=>by kernel_rfl
abbrev Jin:=sigE 273 JxL J9c::Jjn
theorem JyL:AE Jin:=stp Jjw JBy λ_=>by kernel_rfl
abbrev JjU:=sigE 305 JD5 J83::Jin
theorem JCw:AE JjU:=stp JmK JyL λ_=>by kernel_rfl
abbrev JtC:=sigE 272 JMb Jf0::JjU
theorem JMB:AE JtC:=stp JwZ JCw λ_=>by kernel_rfl
abbrev Jon:=sigE 239 JDH Jcd::JtC
theorem JEF:AE Jon:=stp Jpa JMB λ_=>by kernel_rfl
abbrev JcF:=sigE 191 Jp3 J6l::Jon
theorem Jp6:AE JcF:=stp JdK JEF λ_=>by kernel_rfl
abbrev JkZ:=sigE 267 JBe J2G::JcF
theorem JBF:AE JkZ:=stp JmC Jp6 λ_=>by kernel_rfl
abbrev JkF:=sigE 236 JAC J4Q::JkZ
theorem JCJ:AE JkF:=stp Jng JBF λ_=>by kernel_rfl
abbrev JpA:=sigE 90 JJf J6J::JkF
theorem JHZ:AE JpA:=stp Jtf JCJ λ_=>by kernel_rfl
abbrev Jjt:=sigE 77 JBA J2j::JpA
theorem JAU:AE Jjt:=stp JmT JHZ λ_=>by kernel_rfl
abbrev JkY:=sigE 89 JC1 J4R::Jjt
theorem JBx:AE JkY:=stp Joz JAU λ_=>by kernel_rfl
abbrev JhN:=sigE 36 JzI J4b::JkY
theorem JzM:AE JhN:=stp Jkv JBx λ_=>by kernel_rfl
abbrev Jn7:=sigE 301 JEy J8F::JhN
theorem JGL:AE Jn7:=stp Jqv JzM λ_=>by kernel_rfl
abbrev Jge:=sigE 343 JwJ J6b::Jn7
theorem Jxg:AE Jge:=stp Jii JGL λ_=>by kernel_rfl
abbrev JiX:=sigE 302 JAt J1F::Jge
theorem JCP:AE JiX:=stp Jnk Jxg λ_=>by kernel_rfl
abbrev Jjj:=sigE 197 JBi J36::JiX
theorem JBz:AE Jjj:=stp Jmy JCP λ_=>by kernel_rfl
abbrev Jk3:=sigE 145 JBm J37::Jjj
theorem JAP:AE Jk3:=stp Jnx JBz λ_=>by kernel_rfl
abbrev Jha:=sigE 91 Jyp J2q::Jk3
theorem Jy5:AE Jha:=stp Jjz JAP λ_=>by kernel_rfl
abbrev Jo0:=sigE 303 JFB J5D::Jha
theorem JHJ:AE Jo0:=stp JpR Jy5 λ_=>by kernel_rfl
abbrev JjW:=sigE 270 JBL JaF::Jo0
theorem JAH:AE JjW:=stp Jop JHJ λ_=>by kernel_rfl
abbrev Jpz:=sigE 344 JJ9 J2r::JjW
theorem JJh:AE Jpz:=stp JtE JAH λ_=>by kernel_rfl
abbrev JjP:=sigE 304 JBQ JaQ::Jpz
theorem JCq:AE JjP:=stp JnY JJh λ_=>by kernel_rfl
abbrev Jgr:=sigE 271 JwI J3C::JjP
theorem Jwm:AE Jgr:=stp Ji1 JCq λ_=>by kernel_rfl
abbrev Jku:=sigE 238 JD9 J3Q::Jgr
theorem JCz:AE Jku:=stp Jof Jwm λ_=>by kernel_rfl
abbrev JkS:=sigE 190 JAS Jas::Jku
theorem JBo:AE JkS:=stp Jo2 JCz λ_=>by kernel_rfl
abbrev JnL:=sigE 325 JEU J5K::JkS
theorem JEr:AE JnL:=stp JrA JBo λ_=>by kernel_rfl
abbrev JnX:=sigE 361 JDN Jbv::JnL
theorem JFj:AE JnX:=stp JrG JEr λ_=>by kernel_rfl
abbrev JnU:=sigE 362 JFq Jcs::JnX
theorem JFz:AE JnU:=stp Jq7 JFj λ_=>by kernel_rfl
abbrev Ji3:=sigE 324 JzG J3n::JnU
theorem Jzk:AE Ji3:=stp JiV JFz λ_=>by kernel_rfl
abbrev JfR:=sigE 286 JvW J3J::Ji3
theorem Jww:AE JfR:=stp Ji8 Jzk λ_=>by kernel_rfl
abbrev JfL:=sigE 285 Jw2 J1g::JfR
theorem Jwg:AE JfL:=stp Jhm Jww λ_=>by kernel_rfl
abbrev JoJ:=sigE 287 JG7 J3F::JfL
theorem JHt:AE JoJ:=stp JqZ Jwg λ_=>by kernel_rfl
abbrev Jji:=sigE 78 JCA J3V::JoJ
theorem JC3:AE Jji:=stp Joq JHt λ_=>by kernel_rfl
abbrev JfC:=sigE 326 Jxc J8r::Jji
theorem JwL:AE JfC:=stp Jho JC3 λ_=>by kernel_rfl
abbrev JnT:=sigE 329 JFP J8T::JfC
theorem JDK:AE JnT:=stp JrB JwL λ_=>by kernel_rfl
abbrev JhT:=sigE 363 JyR J9H::JnT
theorem JzB:AE JhT:=stp Jli JDK λ_=>by kernel_rfl
abbrev Jph:=sigE 327 JIJ J8d::JhT
theorem JIB:AE Jph:=stp Jt8 JzB λ_=>by kernel_rfl
abbrev Jtp:=sigE 364 JLF J7C::Jph
theorem JKX:AE Jtp:=stp JwA JIB λ_=>by kernel_rfl
abbrev JhA:=sigE 328 JxO J2N::Jtp
theorem Jzj:AE JhA:=stp JiU JKX λ_=>by kernel_rfl
abbrev Jou:=sigE 288 JHj J2i::JhA
theorem JG6:AE Jou:=stp Jrq Jzj λ_=>by kernel_rfl
abbrev Jol:=sigE 245 JHx J1k::Jou
theorem JHC:AE Jol:=stp JpU JG6 λ_=>by kernel_rfl
abbrev Jhb:=sigE 284 JyV J71::Jol
theorem Jxm:AE Jhb:=stp Jkp JHC λ_=>by kernel_rfl
abbrev Jnh:=sigE 244 JFw Jc4::Jhb
theorem JET:AE Jnh:=stp Jrl Jxm λ_=>by kernel_rfl
abbrev Jrd:=sigE 92 JIs Jdj::Jnh
theorem JJl:AE Jrd:=stp JtH JET λ_=>by kernel_rfl
abbrev Jo7:=sigE 37 JGH J95::Jrd
theorem JFn:AE Jo7:=stp JqM JJl λ_=>by kernel_rfl
abbrev Jrh:=sigE 119 JJr J0e::Jo7
theorem JIA:AE Jrh:=stp JsX JFn λ_=>by kernel_rfl
abbrev Jkn:=sigE 83 JAY J62::Jrh
theorem JB3:AE Jkn:=stp Jna JIA λ_=>by kernel_rfl
abbrev JgQ:=sigE 359 Jys J9l::Jkn
theorem Jy3:AE JgQ:=stp Jkd JB3 λ_=>by kernel_rfl
abbrev Jr0:=sigE 360 JJ2 Ja9::JgQ
theorem JIr:AE Jr0:=stp Jtj Jy3 λ_=>by kernel_rfl
abbrev JeK:=sigE 322 JuS J3f::Jr0
theorem JuE:AE JeK:=stp JfO JIr λ_=>by kernel_rfl
abbrev JjG:=sigE 282 JBD J4H::JeK
theorem JBH:AE JjG:=stp Jod JuE λ_=>by kernel_rfl
abbrev Jr9:=sigE 323 JJo J6z::JjG
theorem JIZ:AE Jr9:=stp Jte JBH λ_=>by kernel_rfl
abbrev JhH:=sigE 283 Jz0 J4e::Jr9
theorem Jxw:AE JhH:=stp Jkk JIZ λ_=>by kernel_rfl
abbrev Jju:=sigE 28 JCS J4F::JhH
theorem JCl:AE Jju:=stp JnI Jxw λ_=>by kernel_rfl
abbrev Jjm:=sigE 233 JD8 Je7::Jju
theorem JBv:AE Jjm:=stp Jne JCl λ_=>by kernel_rfl
abbrev Jn1:=sigE 185 JE1 JbU::Jjm
theorem JDX:AE Jn1:=stp Jq5 JBv λ_=>by kernel_rfl
abbrev Jj6:=sigE 138 JAn Jav::Jn1
theorem JC6:AE Jj6:=stp Jor JDX λ_=>by kernel_rfl
abbrev JmQ:=sigE 81 JGX J5I::Jj6
theorem JF5:AE JmQ:=stp Jrc JC6 λ_=>by kernel_rfl
abbrev Jnf:=sigE 31 JGj J5A::JmQ
theorem JFt:AE Jnf:=stp JpN JF5 λ_=>by kernel_rfl
abbrev JmB:=sigE 358 JHr Jc2::Jnf
theorem JEE:AE JmB:=stp Jpc JFt λ_=>by kernel_rfl
abbrev JhJ:=sigE 357 JyS J9A::JmB
theorem Jxp:AE JhJ:=stp Jk7 JEE λ_=>by kernel_rfl
abbrev JnR:=sigE 321 JH0 J5u::JhJ
theorem JGV:AE JnR:=stp Jqi Jxp λ_=>by kernel_rfl
abbrev Jog:=sigE 280 JHa J5y::JnR
theorem JGn:AE Jog:=stp Jra JGV λ_=>by kernel_rfl
abbrev Jkz:=sigE 243 JAA J2l::Jog
theorem JBc:AE Jkz:=stp Jmp JGn λ_=>by kernel_rfl
abbrev Jmw:=sigE 194 JFH Jcb::Jkz
theorem JEw:AE Jmw:=stp JqC JBc λ_=>by kernel_rfl
abbrev JgJ:=sigE 192 JyM J2M::Jmw
theorem JyF:AE JgJ:=stp Jj0 JEw λ_=>by kernel_rfl
abbrev JgC:=sigE 297 Jvz J3G::JgJ
theorem Jvs:AE JgC:=stp JgV JyF λ_=>by kernel_rfl
abbrev Jnv:=sigE 342 JF9 J77::JgC
theorem JFO:AE Jnv:=stp Jqe Jvs λ_=>by kernel_rfl
abbrev Jq6:=sigE 298 JIh J89::Jnv
theorem JIe:AE Jq6:=stp Jtn JFO λ_=>by kernel_rfl
abbrev Jgh:=sigE 264 Jxe J8u::Jq6
theorem JwD:AE Jgh:=stp Jh3 JIe λ_=>by kernel_rfl
abbrev JjH:=sigE 369 JCr J82::Jgh
theorem JCW:AE JjH:=stp Jmz JwD λ_=>by kernel_rfl
abbrev JfT:=sigE 337 Jvh J8o::JjH
theorem Jwl:AE JfT:=stp Jhh JCW λ_=>by kernel_rfl
abbrev J7L:=sigE 371 JvT J8A::JfT
theorem Jis:AE J7L:=stp JhZ Jwl λ_=>by kernel_rfl
theorem Jz2(r x):onO (Jgf g_ref09_closed x) (λy=>JuY (TG.of (sigE 372 g_ref09_closed r::J7L)) JcR y.1 y.2 (Jdt g_ref09_closed))=J5l r x:=by kernel_rfl
abbrev Jhj:=sigE 372 g_ref09_closed Jk9::J7L
theorem JzA:AE Jhj:=λp=>⟨JEj (fn:=JcR) (l:=J7L) rfl (Jis p) rfl Jz2 1100,Jis p⟩
abbrev Jjy:=sigE 339 JBM JaB::Jhj
theorem JBT:AE Jjy:=stp JmX JzA λ_=>by kernel_rfl
abbrev Jhe:=sigE 368 JxV J3q::Jjy
theorem JzK:AE Jhe:=stp JkG JBT λ_=>by kernel_rfl
abbrev Joh:=sigE 335 JFd J91::Jhe
theorem JDU:AE Joh:=stp JpS JzK λ_=>by kernel_rfl
abbrev Jn3:=sigE 334 JH4 J8W::Joh
theorem JGr:AE Jn3:=stp Jpb JDU λ_=>by kernel_rfl
abbrev Jl7:=sigE 373 JBu Jar::Jn3
theorem JCa:AE Jl7:=stp Jnq JGr λ_=>by kernel_rfl
abbrev Jqn:=sigE 340 JHS Jdw::Jl7
theorem JIp:AE Jqn:=stp Jt4 JCa λ_=>by kernel_rfl
abbrev JqI:=sigE 370 JI8 Jdl::Jqn
theorem JJ1:AE JqI:=stp JtJ JIp λ_=>by kernel_rfl
abbrev JgP:=sigE 338 JxA J49::JqI
theorem JyE:AE JgP:=stp JjN JJ1 λ_=>by kernel_rfl
abbrev JhD:=sigE 332 Jzh J4i::JgP
theorem Jzo:AE JhD:=stp Jjl JyE λ_=>by kernel_rfl
abbrev Jih:=sigE 366 Jxl J9D::JhD
theorem Jy1:AE Jih:=stp Jln Jzo λ_=>by kernel_rfl
abbrev Jfl:=sigE 367 Jxi J8s::Jih
theorem Jw9:AE Jfl:=stp Jia Jy1 λ_=>by kernel_rfl
abbrev Jkt:=sigE 333 JBd J3W::Jfl
theorem JBp:AE Jkt:=stp JnF Jw9 λ_=>by kernel_rfl
abbrev JnD:=sigE 336 JHp J8K::Jkt
theorem JFT:AE JnD:=stp JrI JBp λ_=>by kernel_rfl
abbrev Jiq:=sigE 365 JxK J5i::JnD
theorem JxD:AE Jiq:=stp JjO JFT λ_=>by kernel_rfl
abbrev Jfk:=sigE 331 Jwt J2y::Jiq
theorem JvG:AE Jfk:=stp JhB JxD λ_=>by kernel_rfl
abbrev Jtu:=sigE 294 JKv J7D::Jfk
theorem JLZ:AE Jtu:=stp JvM JvG λ_=>by kernel_rfl
abbrev JfK:=sigE 295 JwQ J2U::Jtu
theorem Jvp:AE JfK:=stp Jik JLZ λ_=>by kernel_rfl
abbrev JeF:=sigE 296 Juw J3h::JfK
theorem Ju0:AE JeF:=stp Jg9 Jvp λ_=>by kernel_rfl
abbrev Jt6:=sigE 263 JMf JeS::JeF
theorem JKA:AE Jt6:=stp Jx9 Ju0 λ_=>by kernel_rfl
abbrev Jmq:=sigE 299 JFI J2D::Jt6
theorem JGk:AE Jmq:=stp Jq4 JKA λ_=>by kernel_rfl
abbrev JmU:=sigE 265 JEk Jcr::Jmq
theorem JH8:AE JmU:=stp Jrr JGk λ_=>by kernel_rfl
abbrev Jt1:=sigE 235 JKM Jf6::JmU
theorem JMq:AE Jt1:=stp JvK JH8 λ_=>by kernel_rfl
abbrev Jbc:=sigE 189 Jmi J53::Jt1
theorem Jlt:AE Jbc:=stp Jcv JMq λ_=>by kernel_rfl
abbrev JoB:=sigE 275 JHK JbK::Jbc
theorem JHu:AE JoB:=stp JqW Jlt λ_=>by kernel_rfl
abbrev Jkw:=sigE 52 JB6 J84::JoB
theorem JAp:AE Jkw:=stp Jnu JHu λ_=>by kernel_rfl
abbrev Jnr:=sigE 112 JHD J93::Jkw
theorem JFU:AE Jnr:=stp Jp4 JAp λ_=>by kernel_rfl
abbrev JhG:=sigE 54 JzC J9x::Jnr
theorem Jxs:AE JhG:=stp Jjh JFU λ_=>by kernel_rfl
abbrev JkQ:=sigE 314 JAI J81::JhG
theorem JCZ:AE JkQ:=stp JoH Jxs λ_=>by kernel_rfl
abbrev JnJ:=sigE 313 JF7 JbJ::JkQ
theorem JDO:AE JnJ:=stp Jqo JCZ λ_=>by kernel_rfl
abbrev JkK:=sigE 276 JB7 J4O::JnJ
theorem JC2:AE JkK:=stp JmM JDO λ_=>by kernel_rfl
abbrev Jk8:=sigE 240 JBG JaD::JkK
theorem JBC:AE Jk8:=stp Jnn JC2 λ_=>by kernel_rfl
abbrev JfG:=sigE 58 JwB J6r::Jk8
theorem Jx7:AE JfG:=stp Jip JBC λ_=>by kernel_rfl
abbrev Jbm:=sigE 122 Jlr J3B::JfG
theorem JlI:AE Jbm:=stp JbY Jx7 λ_=>by kernel_rfl
abbrev Jad:=sigE 120 Jky J0x::Jbm
theorem Jlp:AE Jad:=stp Jbh JlI λ_=>by kernel_rfl
abbrev Jcw:=sigE 121 JoY J48::Jad
theorem JoS:AE Jcw:=stp Jcz Jlp λ_=>by kernel_rfl
abbrev Jio:=sigE 60 JzN J9w::Jcw
theorem Jxo:AE Jio:=stp Jlo JoS λ_=>by kernel_rfl
abbrev JnP:=sigE 315 JFa Jcu::Jio
theorem JEt:AE JnP:=stp JpI Jxo λ_=>by kernel_rfl
abbrev JnA:=sigE 378 JGA Jcg::JnP
theorem JEs:AE JnA:=stp Jpw JEt λ_=>by kernel_rfl
abbrev Joa:=sigE 376 JE6 Jcc::JnA
theorem JE9:AE Joa:=stp JpL JEs λ_=>by kernel_rfl
abbrev Jkf:=sigE 352 JBN Jam::Joa
theorem JD4:AE Jkf:=stp Jo3 JE9 λ_=>by kernel_rfl
abbrev JhW:=sigE 380 JyH J9e::Jkf
theorem JxP:AE JhW:=stp JjA JD4 λ_=>by kernel_rfl
abbrev Ja4:=sigE 381 JkE J14::JhW
theorem JkL:AE Ja4:=stp Jb7 JxP λ_=>by kernel_rfl
abbrev Jcy:=sigE 382 JoT J47::Ja4
theorem JoR:AE Jcy:=stp JcI JkL λ_=>by kernel_rfl
abbrev JgG:=sigE 379 JzE J9v::Jcy
theorem Jzm:AE JgG:=stp JjB JoR λ_=>by kernel_rfl
abbrev JgH:=sigE 377 Jyt J9f::JgG
theorem Jxk:AE JgH:=stp Jle Jzm λ_=>by kernel_rfl
abbrev Jhp:=sigE 374 Jzx J9d::JgH
theorem JzD:AE Jhp:=stp Jlg Jxk λ_=>by kernel_rfl
abbrev Jlk:=sigE 350 JB0 Jaq::Jhp
theorem JCm:AE Jlk:=stp JmF JzD λ_=>by kernel_rfl
abbrev Jkm:=sigE 375 JD0 J34::Jlk
theorem JAQ:AE Jkm:=stp Joy JCm λ_=>by kernel_rfl
abbrev Jnd:=sigE 351 JG2 JbA::Jkm
theorem JFM:AE Jnd:=stp JrD JAQ λ_=>by kernel_rfl
abbrev Jg3:=sigE 316 Jvk J8m::Jnd
theorem JvQ:AE Jg3:=stp JhE JFM λ_=>by kernel_rfl
abbrev JkI:=sigE 317 JC0 Jaz::Jg3
theorem JB9:AE JkI:=stp JmO JvQ λ_=>by kernel_rfl
abbrev Jnt:=sigE 277 JEn JbF::JkI
theorem JG4:AE Jnt:=stp Jpe JB9 λ_=>by kernel_rfl
abbrev JnW:=sigE 241 JFW Jbx::Jnt
theorem JE3:AE JnW:=stp Jr2 JG4 λ_=>by kernel_rfl
abbrev J9K:=sigE 193 JiQ J4m::JnW
theorem JiK:AE J9K:=stp Ja6 JE3 λ_=>by kernel_rfl
abbrev Jaj:=sigE 188 Jk6 J1z::J9K
theorem JkU:AE Jaj:=stp Jb8 JiK λ_=>by kernel_rfl
abbrev Ja8:=sigE 143 Jjd J4z::Jaj
theorem JjF:AE Ja8:=stp Jb5 JkU λ_=>by kernel_rfl
abbrev JrC:=sigE 86 JHY Jds::Ja8
theorem JJi:AE JrC:=stp Jtv JjF λ_=>by kernel_rfl
abbrev Jbg:=sigE 35 Jm8 J52::JrC
theorem JlC:AE Jbg:=stp Jcq JJi λ_=>by kernel_rfl
abbrev JbO:=sigE 14 JoQ J5Q::Jbg
theorem JoW:AE JbO:=stp JcA JlC λ_=>by kernel_rfl
abbrev Jtq:=sigE 9 JKt J7B::JbO
theorem JLz:AE Jtq:=stp JvO JoW λ_=>by kernel_rfl
abbrev JjZ:=sigE 84 JCR JaL::Jtq
theorem JC9:AE JjZ:=λp=>⟨JPH rfl,JLz p⟩
abbrev JkP:=sigE 34 JB4 JaP::JjZ
theorem JB5:AE JkP:=stp JmL JC9 λ_=>by kernel_rfl
abbrev JjD:=sigE 6 Jmc J55::JkP
theorem JlU:AE JjD:=stp JbH JB5 λ_=>by kernel_rfl
end
end Go.Am
end
section
namespace Go.Proofs
open Go.RowKit Go.Maps
set_option linter.unusedSimpArgs false
set_option linter.unusedVariables false
theorem JsM{H:Type}{P:Program}(w:World){ops:Array Oper}{rest:List Oper}{o:Oper}{a:Act}{Q:Exit->Act->World->Prop}
  (E:o.guard=none) (m x v:Operand) (t:TypeId) (y:o.op=Op.insert t m x v)
  (k e:TypeId) (K:Keyed P k) (C:P.underlying t=some (.map k e)) (R:Value->Option (DataW H×List MemPlace)) (b n:Nat) (D:DataW H)
  (hm:a.eval m=.map (some b)) (h:w.ownsMap P k R b n D) (hn:n<maxLen) (g val:Value) (A:Lit) (hx:a.eval x=g) (hv:a.eval v=val) (j:keyOf P k g=some A)
  (d:DataW H) (ps:List MemPlace) (q:R val=some (d,ps))
  (F: ∀w',w'.ownsMap P k R b (n+1) (D.put A d)->w.grownBy w' (some b)->wpList P ops Q rest (a.put o.dst undef) w'):
  wpList P ops Q (o::rest) a w:=by
 refine wpList_plain E λI z=>?_;obtain⟨w',r,B,G⟩:=h.update K C hn j q;unfold Oper.wp;simp[execOp,y,hm,hx,hv,r,Result.andThen];exact z _ _ (F w' B G)
theorem Tryz.harm_law:Keyed Tryz.prog 34:=int_keyed Tryz.underlying34
theorem Tryz.harm_zero(w:World):(zeroValue 3).run Tryz.prog w=.ok (.int .i64 0) w:=by kernel_rfl
def Tryz.hD(l:List (Am.Jat)):DataW Unit:=l.foldr (λp D=>D.put (.int .i64 p.1) (.lit (.int .i64 p.2))) (.map [])
def Tryz.HM(w0 w:World)(l:List (Am.Jat)):Prop:=w.ownsMap Tryz.prog 34 (plainElem (H:=Unit) Tryz.prog 3) w0.heap.size l.length (Tryz.hD l)/\Below w0.heap.size w0 w
theorem Tryz.hm_ins{w0:World}(w:World){ops:Array Oper}{rest:List Oper}{o:Oper}{a:Act}{Q:Exit->Act->World->Prop}
  (h:o.guard=none) {m x v:Operand} (g:o.op=Op.insert 198 m x v) (hm:a.eval m=.map (some w0.heap.size)) {p q:Int} (hx:a.eval x=.int .i64 p) (hv:a.eval v=.int .i64 q)
  {l:List (Am.Jat)} (e:Tryz.HM w0 w l) (hn:l.length<50) (hp:(Lit.int .i64 p).wf=true) (hq:(Lit.int .i64 q).wf=true)
  (k: ∀w',Tryz.HM w0 w' ((p,q)::l)->wpList Tryz.prog ops Q rest (a.put o.dst undef) w'):wpList Tryz.prog ops Q (o::rest) a w:=
 JsM w h m x v 198 g 34 3 Tryz.harm_law Tryz.underlying198 _ _ _ _ hm e.1 (by unfold maxLen;omega) _ _ _ hx hv (keyOf_int_mk Tryz.underlying34 hp) _ [] (plainElem_int Tryz.underlying3 hq)
  λw' h1 h2=>k w' ⟨h1,e.2.grown h2 (Am.zQ2 e.2.size (Am.zQ0 _)) (λj hj=>by cases hj;exact Am.zQ0 _)⟩
set_option maxRecDepth 100000 in
set_option maxHeartbeats 4000000 in
theorem Tryz.harm8(w:World):Calls Tryz.prog 84 #[.int .i64 8] w λe w'=>e=.returned (.int .i64 3)/\Below w.heap.size w w':=by
 have q:= @run_makeMap Tryz.prog;have mixed:Tryz.prog.follows .mixedOrders=true:=by kernel_rfl
 have j:Tryz.prog.follows .mapLiteralCalls=true:=by kernel_rfl
 have k:Tryz.prog.follows .lateStores=true:=by kernel_rfl
 go_enter Tryz.func84,Tryz.ntmps84
 have r:Tryz.HM w (w.alloc (.map #[] 0)) []:=⟨World.ownsMap_made _ _ _ _,(Below.refl _ _).alloc (Am.zQ0 _) _⟩
 go_wp2_with (first
  |(refine Tryz.hm_ins _ rfl rfl rfl rfl rfl (by assumption) (by decide) (by decide) (by decide) ?_;intro w1 h1)
  |(refine wpList_lookup_own_ok_int _ rfl _ _ 198 rfl 34 3 .i64 Tryz.harm_law Tryz.underlying198 Tryz.underlying3 (Tryz.harm_zero _) w.heap.size _ _ rfl (And.left (by assumption)) _ _ rfl (keyOf_int_mk Tryz.underlying34 (by decide)) ?_;intro c g o)
  |go_in)
 all_goals
  have h:(Tryz.hD [(10,6),(11,5),(9,4),(8,3),(6,2),(7,1),(27,1),(4,1),(3,1),(2,1),(0,0)]).atKey (Lit.int IntKind.i64 8) (DataW.lit (Lit.int IntKind.i64 0))=DataW.lit (Lit.int IntKind.i64 3):=by kernel_rfl
  have n:has (Tryz.hD [(10,6),(11,5),(9,4),(8,3),(6,2),(7,1),(27,1),(4,1),(3,1),(2,1),(0,0)]) (Lit.int IntKind.i64 8)=true:=by kernel_rfl
  rw[h]at g
 ·injection g with g;injection g with _ g;subst g
  go_ret
  exact⟨rfl,(show Tryz.HM w _ [(10,6),(11,5),(9,4),(8,3),(6,2),(7,1),(27,1),(4,1),(3,1),(2,1),(0,0)] by assumption).2⟩
 all_goals (rename_i hx;rw[n]at hx;cases hx)
theorem Jze(args:List Am.AV)(blks:List Am.Blk)(r:Am.Res)(h:Am.JDD args blks=some r):Am.J85 Tryz.prog 84 args blks r:=by
 unfold Am.JDD at h;split at h
 ·rename_i n;split at h
  ·rename_i hn;injection h with h;subst h;subst hn;exact Am.Jse (xs:=[.i .i64 8]) (vs:=[.int .i64 8]) (v:=.int .i64 3) ⟨_,Tryz.func84,by decide,by decide⟩ rfl rfl λw=>Tryz.harm8 w
  ·cases h
 ·cases h
end Go.Proofs
end
section
namespace Go.Proofs
open Go.Shelf Go.RowKit
def Tryz.ρA:Ren where
 f:=fun
  |105=>129
  |212=>175
  |99=>114
  |165=>176
  |166=>46
  |170=>177
  |169=>50
  |263=>228
  |264=>229
  |206=>169
  |240=>107
  |241=>230
  |276=>166
  |277=>261
  |167=>167
  |n=>n
 t:=fun
  |9=>9
  |3=>3
  |4=>4
  |20=>20
  |0=>0
  |46=>214
  |109=>247
  |5=>5
  |72=>107
  |76=>110
  |51=>149
  |146=>293
  |53=>213
  |148=>295
  |70=>105
  |37=>22
  |75=>109
  |127=>167
  |164=>242
  |80=>114
  |n=>n
 g:=λn=>n
theorem Tryz.laysRep:Lays.n105 Tryz.prog Tryz.ρA where
 mixed:=by kernel_rfl
 f99:=by kernel_rfl
 f105:=by kernel_rfl
 f165:=by kernel_rfl
 f166:=by kernel_rfl
 f169:=by kernel_rfl
 f170:=by kernel_rfl
 f206:=by kernel_rfl
 f212:=by kernel_rfl
 f240:=by kernel_rfl
 f241:=by kernel_rfl
 f263:=by kernel_rfl
 f264:=by kernel_rfl
 f276:=by kernel_rfl
 f277:=by kernel_rfl
 t0:=Tryz.underlying0
 a0:=Tryz.isAgg0
 z0:=Tryz.sizeOf0
 v0:=Tryz.zeroValue0
 t3:=Tryz.underlying3
 a3:=Tryz.isAgg3
 z3:=Tryz.sizeOf3
 v3:=Tryz.zeroValue3
 t4:=Tryz.underlying4
 a4:=Tryz.isAgg4
 z4:=Tryz.sizeOf4
 v4:=Tryz.zeroValue4
 t5:=Tryz.underlying5
 a5:=Tryz.isAgg5
 z5:=Tryz.sizeOf5
 v5:=Tryz.zeroValue5
 t9:=Tryz.underlying9
 a9:=Tryz.isAgg9
 z9:=Tryz.sizeOf9
 v9:=Tryz.zeroValue9
 t20:=Tryz.underlying20
 a20:=Tryz.isAgg20
 z20:=Tryz.sizeOf20
 v20:=Tryz.zeroValue20
 t37:=Tryz.underlying22
 a37:=Tryz.isAgg22
 z37:=Tryz.sizeOf22
 v37:=Tryz.zeroValue22
 t46:=Tryz.underlying214
 a46:=Tryz.isAgg214
 z46:=Tryz.sizeOf214
 v46:=Tryz.zeroValue214
 t51:=Tryz.underlying149
 a51:=Tryz.isAgg149
 z51:=Tryz.sizeOf149
 v51:=Tryz.zeroValue149
 t53:=Tryz.underlying213
 a53:=Tryz.isAgg213
 z53:=Tryz.sizeOf213
 v53:=Tryz.zeroValue213
 t70:=Tryz.underlying105
 a70:=Tryz.isAgg105
 z70:=Tryz.sizeOf105
 v70:=Tryz.zeroValue105
 t72:=Tryz.underlying107
 a72:=Tryz.isAgg107
 z72:=Tryz.sizeOf107
 v72:=Tryz.zeroValue107
 t75:=Tryz.underlying109
 a75:=Tryz.isAgg109
 z75:=Tryz.sizeOf109
 v75:=Tryz.zeroValue109
 t76:=Tryz.underlying110
 a76:=Tryz.isAgg110
 z76:=Tryz.sizeOf110
 v76:=Tryz.zeroValue110
 t109:=Tryz.underlying247
 a109:=Tryz.isAgg247
 z109:=Tryz.sizeOf247
 v109:=Tryz.zeroValue247
 t127:=Tryz.underlying167
 a127:=Tryz.isAgg167
 z127:=Tryz.sizeOf167
 v127:=Tryz.zeroValue167
 t146:=Tryz.underlying293
 a146:=Tryz.isAgg293
 z146:=Tryz.sizeOf293
 v146:=Tryz.zeroValue293
 t148:=Tryz.underlying295
 a148:=Tryz.isAgg295
 z148:=Tryz.sizeOf295
 v148:=Tryz.zeroValue295
 t164:=Tryz.underlying242
 a164:=Tryz.isAgg242
 z164:=Tryz.sizeOf242
 v164:=Tryz.zeroValue242
theorem Tryz.laysWB:Lays.n167 Tryz.prog Tryz.ρA where
 mixed:=by kernel_rfl
 f167:=by kernel_rfl
 f240:=by kernel_rfl
 f276:=by kernel_rfl
 t0:=Tryz.underlying0
 a0:=Tryz.isAgg0
 z0:=Tryz.sizeOf0
 v0:=Tryz.zeroValue0
 t4:=Tryz.underlying4
 a4:=Tryz.isAgg4
 z4:=Tryz.sizeOf4
 v4:=Tryz.zeroValue4
 t5:=Tryz.underlying5
 a5:=Tryz.isAgg5
 z5:=Tryz.sizeOf5
 v5:=Tryz.zeroValue5
 t9:=Tryz.underlying9
 a9:=Tryz.isAgg9
 z9:=Tryz.sizeOf9
 v9:=Tryz.zeroValue9
 t20:=Tryz.underlying20
 a20:=Tryz.isAgg20
 z20:=Tryz.sizeOf20
 v20:=Tryz.zeroValue20
 t37:=Tryz.underlying22
 a37:=Tryz.isAgg22
 z37:=Tryz.sizeOf22
 v37:=Tryz.zeroValue22
 t70:=Tryz.underlying105
 a70:=Tryz.isAgg105
 z70:=Tryz.sizeOf105
 v70:=Tryz.zeroValue105
 t72:=Tryz.underlying107
 a72:=Tryz.isAgg107
 z72:=Tryz.sizeOf107
 v72:=Tryz.zeroValue107
 t75:=Tryz.underlying109
 a75:=Tryz.isAgg109
 z75:=Tryz.sizeOf109
 v75:=Tryz.zeroValue109
 t164:=Tryz.underlying242
 a164:=Tryz.isAgg242
 z164:=Tryz.sizeOf242
 v164:=Tryz.zeroValue242
theorem Tryz.extraRep:Builder.Extra Tryz.prog Tryz.ρA where
 sizeBuilder:=by kernel_rfl
 liesBuilder:=by kernel_rfl
 t5:=Tryz.laysRep.t5
 a5:=Tryz.laysRep.a5
 z5:=Tryz.laysRep.z5
 v5:=Tryz.laysRep.v5
 infoByte:=by kernel_rfl
 cellsByte:=by kernel_rfl
 sizeByte:=by kernel_rfl
 neB5:=by decide
theorem Tryz.WriteByte(B b:Nat)(g:List Value)(c:Int)(w:World)(h:Lib.IsBuilder 107 5 B b g w)(hlen:g.length+1<=140737488355328)(j:B<=w.heap.size):
  Calls Tryz.prog 167 #[.pointer (some ⟨b,0,none⟩),.int .u8 c] w λe w'=>e=.returned .nilIface/\(Lib.BuilderAt 107 5 B b (.pointer (some ⟨b,0,none⟩)) (g++[.int .u8 c]) w'/\Below B w w'):=
 Any.Builder_WriteByte Tryz.laysWB Tryz.extraRep B b g c w h hlen j
theorem Tryz.WriteString(B b:Nat)(g:List Value)(s:ByteArray)(w:World)(h:Lib.IsBuilder 107 5 B b g w)(hlen:g.length+s.size<=140737488355328)(j:B<=w.heap.size):
  Calls Tryz.prog 46 #[.pointer (some ⟨b,0,none⟩),.string s] w λe w'=>e=.returned (.tuple #[.int .i64 s.size,.nilIface])/\(Lib.BuilderAt 107 5 B b (.pointer (some ⟨b,0,none⟩)) (g++Lib.strCells s) w'/\Below B w w'):=
 Any.Builder_WriteString {Tryz.laysRep with} Tryz.extraRep B b g s w h hlen j
theorem Tryz.String(B b:Nat)(l:List UInt8)(w:World)(h:Lib.IsBuilder 107 5 B b (Lib.byteCells l) w)(g:B<=w.heap.size):
  Calls Tryz.prog 50 #[.pointer (some ⟨b,0,none⟩)] w λe w'=>e=.returned (.string ⟨l.toArray⟩)/\Below B w w':=
 Any.Builder_String_any {Tryz.laysRep with} Tryz.extraRep B b l w h g
theorem JyW(l:List UInt8)(n:Int)(k:Nat):Lib.byteCells (l++Am.J9T n k)++[.int .u8 (Am.Jae n k)]=Lib.byteCells (l++Am.J9T n (k+1)):=by
 rw[Am.JNz,<-Am.Jb1,Lib.byteCells_append (l++Am.J9T n k)]
 congr 1
 show [Value.int .u8 _]=[Value.int .u8 ((UInt8.ofNat (Am.Jae n k).toNat).toNat:Int)];rw[Am.JMa]
set_option maxHeartbeats 6400000 in
set_option maxRecDepth 100000 in
theorem Tryz.put(s:ByteArray)(n:Int)(k:Nat)(hk:1<=k)(B:k<=8)(hs:s.size+8<=140737488355328)(w:World):
  Calls Tryz.prog 108 #[.string s,.int .i64 n,.int .i64 k] w λe w'=>e=.returned (.string ⟨(s.data.toList++Am.J9T n k).toArray⟩)/\Below w.heap.size w w':=by
 have C:s.data.toList.length=s.size:=(Lib.size_eq s).symm;have h:Lib.IsBuilder 107 5 w.heap.size w.heap.size [] (w.alloc (.cells #[.pointer none,.slice none 0 0] 107)):=Lib.fresh_isBuilder 107 5 w;have g:Below w.heap.size w (w.alloc (.cells #[.pointer none,.slice none 0 0] 107)):=(Below.refl _ w).alloc (Am.zQ0 _) _
 go_enter Tryz.func108,Tryz.ntmps108
 go_wp2_with (go_at_call 46;refine(Tryz.WriteString w.heap.size w.heap.size [] s _ h (by simp;omega) g.size).mono ?_)
 rintro e y ⟨rfl,h1,b1⟩;have r:Lib.IsBuilder 107 5 w.heap.size w.heap.size (Lib.byteCells (s.data.toList++Am.J9T n 0)) y:=by rw[Am.Jc9,Lib.strCells_eq]at h1;have x:Am.J9T n 0=[]:=rfl;rw[x,Am.J59];exact Or.inr h1
 have v:=g.trans b1;clear h1 b1 h g
 go_wp2
 go_loopw [19] (λi o=> ∃j:Nat,j<=k/\i=.int .i64 j/\Lib.IsBuilder 107 5 w.heap.size w.heap.size (Lib.byteCells (s.data.toList++Am.J9T n j)) o/\Below w.heap.size w o)
  (λi _=>k-(intOf i).toNat)
 case atStart=>exact⟨0,Am.zQ5 _,rfl,r,v⟩
 case round=>
  obtain⟨j,hj,rfl,q,hb⟩:=hrel;by_cases A:j<k
  ·go_wp2_with (go_at_call 167;refine(Tryz.WriteByte w.heap.size w.heap.size _ _ _ q (by rw[Lib.byteCells_length,Am.JbN,Am.Jth];omega) hb.size).mono ?_;rintro e z ⟨rfl,h2,b2⟩)
   have e1:Am.Jae n j=IntKind.u64.wrap n/2^(8*j)%256:=by show((IntKind.wrap .u64 n).fdiv (2^(8*j)))%256=_;rw[Int.fdiv_eq_ediv_of_nonneg _ (Int.le_of_lt (Int.pow_pos (by decide)))]
   rw[<-e1,JyW]at h2;exact⟨⟨j+1,by omega,by simp,Or.inr h2,hb.trans b2⟩,by simp[intOf];omega⟩
  ·obtain rfl:j=k:=by omega
   go_wp2_with (go_at_call 50;refine(Tryz.String w.heap.size w.heap.size _ _ q hb.size).mono ?_;rintro e z ⟨rfl,b2⟩)
   go_wp2
   go_ret
   exact⟨rfl,hb.trans b2⟩
theorem Tryz.put_out(s:ByteArray)(n k:Int)(hk:k<1\/8<k)(w:World):
  Calls Tryz.prog 108 #[.string s,.int .i64 n,.int .i64 k] w λe w'=>e=.returned (.string s)/\Below w.heap.size w w':=by
 go_enter Tryz.func108,Tryz.ntmps108
 go_wp2
 all_goals (go_ret;exact⟨rfl,Below.refl _ _⟩)
theorem J8q(l:List UInt8): ∀c,Lib.repeatL l c=(List.replicate c l).flatten
 |0=>rfl
 |c+1=>by rw[Lib.repeatL,J8q l c,List.replicate_succ,Am.J8S]
theorem JHq(l:List UInt8):(⟨l.toArray⟩:ByteArray).data.toList=l:=rfl
theorem JsR(args:List Am.AV)(blks:List Am.Blk)(r:Am.Res)(h:Am.JLk args blks=some r):Am.J85 Tryz.prog 129 args blks r:=by
 unfold Am.JLk at h;split at h
 ·rename_i bl l n;obtain⟨x,hx,rfl⟩:=Am.J5R.1 h;unfold Am.Jv6 at hx;split at hx
  ·rename_i hc;obtain⟨e,h1,h2⟩:=hc;injection hx with hx;subst hx;refine Am.Jse (xs:=[.s l,.i .i64 n]) (vs:=[.string ⟨l.toArray⟩,.int .i64 n]) (v:=.string ⟨((List.replicate n.toNat l).flatten).toArray⟩) ⟨_,Tryz.func129,by decide,by decide⟩ rfl rfl λw=>?_;have h3:=Any.strings_Repeat Tryz.laysRep Tryz.extraRep ⟨l.toArray⟩ n.toNat w (by omega) (by rw[Lib.size_eq];exact h2);rw[JHq,J8q,show((n.toNat:Nat):Int)=n by omega]at h3;exact h3
  ·cases hx
 ·cases h
theorem JGP(args:List Am.AV)(blks:List Am.Blk)(r:Am.Res)(h:Am.JKV args blks=some r):Am.J85 Tryz.prog 108 args blks r:=by
 unfold Am.JKV at h;split at h
 ·rename_i bl l n k;obtain⟨x,hx,rfl⟩:=Am.J5R.1 h;unfold Am.JtT at hx;split at hx
  ·rename_i hc;injection hx with hx;subst hx;exact Am.Jse (xs:=[.s l,.i .i64 n,.i .i64 k]) (vs:=[.string ⟨l.toArray⟩,.int .i64 n,.int .i64 k]) (v:=.string ⟨l.toArray⟩) ⟨_,Tryz.func108,by decide,by decide⟩ rfl rfl λw=>Tryz.put_out _ n k hc w
  ·rename_i hc;split at hx
   ·rename_i h2;injection hx with hx;subst hx;refine Am.Jse (xs:=[.s l,.i .i64 n,.i .i64 k]) (vs:=[.string ⟨l.toArray⟩,.int .i64 n,.int .i64 k]) (v:=.string ⟨(l++Am.J9T n k.toNat).toArray⟩) ⟨_,Tryz.func108,by decide,by decide⟩ rfl rfl λw=>?_;have h3:=Tryz.put ⟨l.toArray⟩ n k.toNat (by omega) (by omega) (by rw[Lib.size_eq];exact h2) w;rw[JHq,show((k.toNat:Nat):Int)=k by omega]at h3;exact h3
   ·cases hx
 ·cases h
end Go.Proofs
end
