/-
  Parts of a proof.
-/
import Derived.Test.YthnapahopkopbaaGreatM4
import Derived.Test.YthnapahopkopbaaGreatM6
set_option linter.unusedSimpArgs false
set_option linter.unusedVariables false
section
namespace Go.Am
set_option maxRecDepth 20000
set_option maxHeartbeats 4000000
variable (p:PS)
noncomputable section
abbrev JpM:=sigE 8 JFC J5g::[]
theorem JGI:AE JpM:=stp JrO ae0 λ_=>by kernel_rfl
abbrev J8f:=sigE 24 Jhi J5M::JpM
theorem Jh4:AE J8f:=stp J9n JGI λ_=>by kernel_rfl
abbrev Jde:=sigE 64 JrM J5i::J8f
theorem Jsj:AE Jde:=stp Jf8 Jh4 λ_=>by kernel_rfl
abbrev Jbq:=sigE 54 Jpd J2A::Jde
theorem Jpa:AE Jbq:=stp Jc8 Jsj λ_=>by kernel_rfl
abbrev JkN:=sigE 53 JAc J6U::Jbq
theorem JzF:AE JkN:=stp Jog Jpa λ_=>by kernel_rfl
abbrev JeN:=sigE 42 Jus J5N::JkN
theorem Juw:AE JeN:=stp JhJ JzF λ_=>by kernel_rfl
abbrev Jaq:=sigE 25 Jo4 J5l::JeN
theorem JmW:AE Jaq:=stp Jbv Juw λ_=>by kernel_rfl
abbrev JfE:=sigE 50 Ju7 J4w::Jaq
theorem Jvc:AE JfE:=stp Jhk JmW λ_=>by kernel_rfl
abbrev Jay:=sigE 71 Jn5 J3M::JfE
theorem Jmd:AE Jay:=stp Jbr Jvc λ_=>by kernel_rfl
abbrev JfJ:=sigE 70 JuB J7B::Jay
theorem Jtu:AE JfJ:=stp Jh2 Jmd λ_=>by kernel_rfl
abbrev Jep:=sigE 61 JuF J5O::JfJ
theorem Juo:AE Jep:=stp Jii Jtu λ_=>by kernel_rfl
abbrev JlK:=sigE 60 JC3 J5G::Jep
theorem JC8:AE JlK:=stp Jnb Juo λ_=>by kernel_rfl
abbrev Jca:=sigE 59 Jqe J21::JlK
theorem JqK:AE Jca:=stp JdB JC8 λ_=>by kernel_rfl
abbrev Jc6:=sigE 62 JqT J63::Jca
theorem Jqs:AE Jc6:=stp Jdg JqK λ_=>by kernel_rfl
abbrev Jc7:=sigE 63 Jqh JdH::Jc6
theorem Jqc:AE Jc7:=stp Jdx Jqs λ_=>by kernel_rfl
abbrev Jic:=sigE 51 JwQ Jyb::Jc7
theorem Jyn:AE Jic:=stp Jks Jqc λ_=>by kernel_rfl
abbrev JgS:=sigE 40 Jym J8w::Jic
theorem Jyp:AE JgS:=stp Jky Jyn λ_=>by kernel_rfl
abbrev JdS:=sigE 39 Jsv J6N::JgS
theorem Jta:AE JdS:=stp JfU Jyp λ_=>by kernel_rfl
abbrev Jdu:=sigE 52 Jt7 J9q::JdS
theorem Jtf:AE Jdu:=stp Jg4 Jta λ_=>by kernel_rfl
abbrev Jiv:=sigE 41 Jyy J8S::Jdu
theorem JxA:AE Jiv:=stp JkB Jtf λ_=>by kernel_rfl
abbrev Jkn:=sigE 23 Jzv J3H::Jiv
theorem JBA:AE Jkn:=stp Jnd JxA λ_=>by kernel_rfl
abbrev JbG:=sigE 11 Jpb J2z::Jkn
theorem Jp9:AE JbG:=stp Jcd JBA λ_=>by kernel_rfl
abbrev Jhw:=sigE 7 JwA J53::JbG
theorem Jxf:AE Jhw:=stp JkZ Jp9 λ_=>by kernel_rfl
abbrev J7w:=sigE 10 Jxi J8X::Jhw
theorem Jlv:AE J7w:=stp Jl5 Jxf λ_=>by kernel_rfl
theorem Jph(r x):onO (JjA g_draw_Codes_Next x) (λy=>Jr1 (TG.of (sigE 20 g_draw_Codes_Next r::J7w)) J89 y.1 y.2 (Jbk g_draw_Codes_Next))=J3h r x:=by kernel_rfl
abbrev JbA:=sigE 20 g_draw_Codes_Next Jm::J7w
theorem Jpi:AE JbA:=λp=>⟨JzP (fn:=J89) (l:=J7w) rfl (Jlv p) rfl Jph 100,Jlv p⟩
abbrev Jbs:=sigE 98 Jp4 J3i::JbA
theorem Jp6:AE Jbs:=stp Jc3 Jpi λ_=>by kernel_rfl
abbrev Jcl:=sigE 99 Jqz J0l::Jbs
theorem Jqr:AE Jcl:=stp Je5 Jp6 λ_=>by kernel_rfl
abbrev Ja0:=sigE 85 Jm1 J3v::Jcl
theorem Jm8:AE Ja0:=stp Jap Jqr λ_=>by kernel_rfl
abbrev JbB:=sigE 68 Jp8 J5C::Ja0
theorem Jpc:AE JbB:=stp Jcf Jm8 λ_=>by kernel_rfl
abbrev J8l:=sigE 57 JgY J3T::JbB
theorem Jiu:AE J8l:=stp J95 Jpc λ_=>by kernel_rfl
abbrev Jeq:=sigE 75 JuP J7y::J8l
theorem Jv9:AE Jeq:=stp JgL Jiu λ_=>by kernel_rfl
abbrev Jot:=sigE 66 JDy Jbn::Jeq
theorem JEj:AE Jot:=stp Jpk Jv9 λ_=>by kernel_rfl
abbrev JnR:=sigE 74 JDK JDk::Jot
theorem JDh:AE JnR:=stp Jpx JEj λ_=>by kernel_rfl
abbrev Jms:=sigE 72 JEf J8b::JnR
theorem JDC:AE Jms:=stp JpW JDh λ_=>by kernel_rfl
abbrev Jos:=sigE 73 JDJ J8g::Jms
theorem JEy:AE Jos:=stp JpH JDC λ_=>by kernel_rfl
abbrev JoB:=sigE 65 JDn Jb6::Jos
theorem JDD:AE JoB:=stp JpK JEy λ_=>by kernel_rfl
abbrev Jmt:=sigE 55 JE1 Jbo::JoB
theorem JDw:AE Jmt:=stp Jq0 JDD λ_=>by kernel_rfl
abbrev JeT:=sigE 49 Jv6 J2u::Jmt
theorem Ju9:AE JeT:=stp Jh6 JDw λ_=>by kernel_rfl
abbrev Jbu:=sigE 69 Jpj J0T::JeT
theorem Jpg:AE Jbu:=stp Jc9 Ju9 λ_=>by kernel_rfl
abbrev Jil:=sigE 58 Jwx J26::Jbu
theorem Jyu:AE Jil:=stp JlD Jpg λ_=>by kernel_rfl
abbrev JgG:=sigE 48 Jyv J3q::Jil
theorem Jx3:AE JgG:=stp JlH Jyu λ_=>by kernel_rfl
abbrev Ji0:=sigE 36 JwC J09::JgG
theorem JwR:AE Ji0:=stp Jl0 Jx3 λ_=>by kernel_rfl
abbrev Jly:=sigE 47 JzA J29::Ji0
theorem JBR:AE Jly:=stp Jno JwR λ_=>by kernel_rfl
abbrev JgJ:=sigE 46 Jwp J0f::Jly
theorem JwD:AE JgJ:=stp Jkr JBR λ_=>by kernel_rfl
abbrev Jin:=sigE 33 JyC J2q::JgJ
theorem Jwn:AE Jin:=stp Jkx JwD λ_=>by kernel_rfl
abbrev Jkj:=sigE 34 JCF J3I::Jin
theorem JD5:AE Jkj:=stp JmC Jwn λ_=>by kernel_rfl
abbrev JeZ:=sigE 84 Jvb Jv::Jkj
theorem Jvn:AE JeZ:=stp Jh3 JD5 λ_=>by kernel_rfl
abbrev Jiz:=sigE 177 JyE J28::JeZ
theorem Jww:AE Jiz:=stp Jk4 Jvn λ_=>by kernel_rfl
abbrev Jim:=sigE 130 JxC J0W::Jiz
theorem Jy1:AE Jim:=stp JkV Jww λ_=>by kernel_rfl
abbrev JlP:=sigE 131 JCi J1l::Jim
theorem JzD:AE JlP:=stp Jmv Jy1 λ_=>by kernel_rfl
abbrev JgM:=sigE 100 Jyc J6h::JlP
theorem Jxb:AE JgM:=stp Jkq JzD λ_=>by kernel_rfl
abbrev Ji9:=sigE 118 Jy7 J42::JgM
theorem JxW:AE Ji9:=stp JlY Jxb λ_=>by kernel_rfl
abbrev Jck:=sigE 188 Jqx J1Z::Ji9
theorem Jrf:AE Jck:=stp Jdn JxW λ_=>by kernel_rfl
abbrev Jit:=sigE 208 Jxs J50::Jck
theorem Jyq:AE Jit:=stp JlW Jrf λ_=>by kernel_rfl
abbrev JlU:=sigE 209 JAa J7h::Jit
theorem JAO:AE JlU:=stp Jna Jyq λ_=>by kernel_rfl
abbrev Jlq:=sigE 210 JBC J2K::JlU
theorem JzZ:AE Jlq:=stp Jnk JAO λ_=>by kernel_rfl
abbrev Jhe:=sigE 162 JwW J1i::Jlq
theorem JyA:AE Jhe:=stp Jlo JzZ λ_=>by kernel_rfl
abbrev JiH:=sigE 191 JxR J1H::Jhe
theorem JxL:AE JiH:=stp Jkc JyA λ_=>by kernel_rfl
abbrev Je7:=sigE 190 Jso J1z::JiH
theorem JrY:AE Je7:=stp Jfs JxL λ_=>by kernel_rfl
abbrev JiE:=sigE 138 Jws J1q::Je7
theorem Jwy:AE JiE:=stp JkI JrY λ_=>by kernel_rfl
abbrev JiC:=sigE 106 Jye J0g::JiE
theorem Jxg:AE JiC:=stp JlS Jwy λ_=>by kernel_rfl
abbrev JmZ:=sigE 211 JDP J6w::JiC
theorem JDv:AE JmZ:=stp JpV Jxg λ_=>by kernel_rfl
abbrev Jh9:=sigE 163 JyO J1u::JmZ
theorem Jy8:AE Jh9:=stp Jkk JDv λ_=>by kernel_rfl
abbrev Jav:=sigE 164 Jni J1B::Jh9
theorem Joe:AE Jav:=stp Jbp Jy8 λ_=>by kernel_rfl
abbrev JhY:=sigE 117 Jxh J4a::Jav
theorem Jx2:AE JhY:=stp JkG Joe λ_=>by kernel_rfl
abbrev JhI:=sigE 94 JxK JJ::JhY
theorem JwT:AE JhI:=stp Jln Jx2 λ_=>by kernel_rfl
abbrev Jiy:=sigE 86 JxU J8P::JhI
theorem JwK:AE Jiy:=stp Jlk JwT λ_=>by kernel_rfl
abbrev Jht:=sigE 76 JyI J8v::Jiy
theorem Jwl:AE Jht:=stp Jk9 JwK λ_=>by kernel_rfl
abbrev JdV:=sigE 37 JrW JM::Jht
theorem Jtd:AE JdV:=stp Jfz Jwl λ_=>by kernel_rfl
abbrev Jfc:=sigE 153 Jtv J1e::JdV
theorem Jv0:AE Jfc:=stp Jhs Jtd λ_=>by kernel_rfl
abbrev Joi:=sigE 154 JDT J0I::Jfc
theorem JDS:AE Joi:=stp Jq2 Jv0 λ_=>by kernel_rfl
abbrev JnP:=sigE 199 JE0 Jb5::Joi
theorem JDs:AE JnP:=stp Jps JDS λ_=>by kernel_rfl
abbrev Jlc:=sigE 156 JD9 J2I::JnP
theorem JD4:AE Jlc:=stp JnU JDs λ_=>by kernel_rfl
abbrev JlB:=sigE 152 JAg J0L::Jlc
theorem JB9:AE JlB:=stp JmN JD4 λ_=>by kernel_rfl
abbrev JeE:=sigE 196 Jvo J4t::JlB
theorem JuL:AE JeE:=stp JgC JB9 λ_=>by kernel_rfl
abbrev Jo3:=sigE 197 JDl J2G::JeE
theorem JDc:AE Jo3:=stp JpN JuL λ_=>by kernel_rfl
abbrev Jf0:=sigE 198 Ju0 J2a::Jo3
theorem Jux:AE Jf0:=stp JgO JDc λ_=>by kernel_rfl
abbrev Jlg:=sigE 155 JA6 J0A::Jf0
theorem JAC:AE Jlg:=stp JmJ Jux λ_=>by kernel_rfl
abbrev JlZ:=sigE 107 JAo J1A::Jlg
theorem JA7:AE JlZ:=stp JmR JAC λ_=>by kernel_rfl
abbrev Jlz:=sigE 89 JCP J1k::JlZ
theorem JA2:AE Jlz:=stp Jn7 JA7 λ_=>by kernel_rfl
abbrev JnT:=sigE 104 JEp J2J::Jlz
theorem JE4:AE JnT:=stp Jpz JA2 λ_=>by kernel_rfl
abbrev JlR:=sigE 121 JAs J3J::JnT
theorem JAI:AE JlR:=stp Jol JE4 λ_=>by kernel_rfl
abbrev JmE:=sigE 113 JDp J1b::JlR
theorem JDU:AE JmE:=stp JpB JAI λ_=>by kernel_rfl
abbrev Jn8:=sigE 140 JE3 JO::JmE
theorem JEl:AE Jn8:=stp JpQ JDU λ_=>by kernel_rfl
abbrev JfP:=sigE 151 Ju4 J7O::Jn8
theorem Jub:AE JfP:=stp JhK JEl λ_=>by kernel_rfl
abbrev JdC:=sigE 195 JsD J5h::JfP
theorem Jt3:AE JdC:=stp JeV Jub λ_=>by kernel_rfl
abbrev JeI:=sigE 150 Jvk J7u::JdC
theorem Jud:AE JeI:=stp JhH Jt3 λ_=>by kernel_rfl
abbrev Jh1:=sigE 149 JyK J6j::JeI
theorem Jxn:AE Jh1:=stp Jk5 Jud λ_=>by kernel_rfl
abbrev Jg2:=sigE 112 JtM J7n::Jh1
theorem JuN:AE Jg2:=stp Jh8 Jxn λ_=>by kernel_rfl
abbrev Jhu:=sigE 148 JyM J6m::Jg2
theorem Jyd:AE Jhu:=stp Jk7 JuN λ_=>by kernel_rfl
abbrev JpX:=sigE 111 JHe JcA::Jhu
theorem JHE:AE JpX:=stp JsY Jyd λ_=>by kernel_rfl
abbrev JlC:=sigE 91 Jzi Ja7::JpX
theorem JA9:AE JlC:=stp Jml JHE λ_=>by kernel_rfl
abbrev Jar:=sigE 80 Jmf J5e::JlC
theorem Jmi:AE Jar:=stp Jbt JA9 λ_=>by kernel_rfl
abbrev Jix:=sigE 105 Jx6 J2o::Jar
theorem Jxt:AE Jix:=stp Jk1 Jmi λ_=>by kernel_rfl
abbrev Jie:=sigE 88 JwB J48::Jix
theorem Jyr:AE Jie:=stp JkD Jxt λ_=>by kernel_rfl
abbrev JmM:=sigE 142 JEq J5y::Jie
theorem JDg:AE JmM:=stp JpE Jyr λ_=>by kernel_rfl
abbrev Jh5:=sigE 139 Jxp J24::JmM
theorem JwO:AE Jh5:=stp Jke JDg λ_=>by kernel_rfl
abbrev Jiw:=sigE 141 JxO J49::Jh5
theorem Jxm:AE Jiw:=stp JlO JwO λ_=>by kernel_rfl
abbrev Jfr:=sigE 108 JvF J4q::Jiw
theorem JvH:AE Jfr:=stp Ji3 Jxm λ_=>by kernel_rfl
abbrev Jkt:=sigE 144 JA3 J6V::Jfr
theorem JC7:AE Jkt:=stp Jnx JvH λ_=>by kernel_rfl
abbrev JdQ:=sigE 193 JsL J55::Jkt
theorem Jte:AE JdQ:=stp JfX JC7 λ_=>by kernel_rfl
abbrev Jgz:=sigE 145 Jwu J1s::JdQ
theorem Jyx:AE Jgz:=stp JkH Jte λ_=>by kernel_rfl
abbrev JgX:=sigE 231 Jx9 J2N::Jgz
theorem Jxo:AE JgX:=stp JjX Jyx λ_=>by kernel_rfl
abbrev JhA:=sigE 192 Jxc J2O::JgX
theorem JwL:AE JhA:=stp JkS Jxo λ_=>by kernel_rfl
abbrev JeO:=sigE 143 Juq J2c::JhA
theorem Ju6:AE JeO:=stp Jhb JwL λ_=>by kernel_rfl
abbrev Jlh:=sigE 146 JB0 J4I::JeO
theorem JD2:AE Jlh:=stp Jn1 Ju6 λ_=>by kernel_rfl
abbrev Jhv:=sigE 109 Jxy J8N::Jlh
theorem JwF:AE Jhv:=stp JlE JD2 λ_=>by kernel_rfl
abbrev JmL:=sigE 194 JEk J2d::Jhv
theorem JEr:AE JmL:=stp JpZ JwF λ_=>by kernel_rfl
abbrev Jhp:=sigE 147 JxF J8W::JmL
theorem Jy9:AE Jhp:=stp Jlf JEr λ_=>by kernel_rfl
abbrev Je0:=sigE 110 JsK J38::Jhp
theorem Jsn:AE Je0:=stp JfG Jy9 λ_=>by kernel_rfl
abbrev Ji2:=sigE 90 JyQ J3k::Je0
theorem Jyg:AE Ji2:=stp Jlu Jsn λ_=>by kernel_rfl
abbrev Jiq:=sigE 79 JwN J8A::Ji2
theorem Jxd:AE Jiq:=stp Jli Jyg λ_=>by kernel_rfl
abbrev Jl3:=sigE 171 JAn J4O::Jiq
theorem JzW:AE Jl3:=stp Jow Jxd λ_=>by kernel_rfl
abbrev Jle:=sigE 218 Jzn J9v::Jl3
theorem JAJ:AE Jle:=stp JoA JzW λ_=>by kernel_rfl
abbrev Jlb:=sigE 219 JAP Jag::Jle
theorem JAY:AE Jlb:=stp Jnh JAJ λ_=>by kernel_rfl
abbrev JfH:=sigE 170 JvD J2U::Jlb
theorem Jvh:AE JfH:=stp Jgx JAY λ_=>by kernel_rfl
abbrev Jdy:=sigE 127 JrZ J3e::JfH
theorem Jsy:AE Jdy:=stp JfM Jvh λ_=>by kernel_rfl
abbrev Jdq:=sigE 126 Js4 J16::Jdy
theorem Jsg:AE Jdq:=stp Jf1 Jsy λ_=>by kernel_rfl
abbrev JlX:=sigE 128 JBu J3a::Jdq
theorem JCN:AE JlX:=stp JnZ Jsg λ_=>by kernel_rfl
abbrev JgW:=sigE 173 Jyh J3n::JlX
theorem JxQ:AE JgW:=stp JlF JCN λ_=>by kernel_rfl
abbrev Jdh:=sigE 172 Jt9 J6E::JgW
theorem JsN:AE Jdh:=stp Jf3 JxQ λ_=>by kernel_rfl
abbrev Jla:=sigE 176 JBe J79::Jdh
theorem Jzk:AE Jla:=stp Jox JsN λ_=>by kernel_rfl
abbrev Jfy:=sigE 220 JuV J7Q::Jla
theorem Jvy:AE Jfy:=stp JiO Jzk λ_=>by kernel_rfl
abbrev Jmu:=sigE 174 JDY J6r::Jfy
theorem JDR:AE Jmu:=stp Jpy Jvy λ_=>by kernel_rfl
abbrev JpL:=sigE 221 JGN J64::Jmu
theorem JG1:AE JpL:=stp JsB JDR λ_=>by kernel_rfl
abbrev Jfe:=sigE 175 JtP J2w::JpL
theorem Jvg:AE Jfe:=stp Jgw JG1 λ_=>by kernel_rfl
abbrev JlJ:=sigE 129 JCE J23::Jfe
theorem JBt:AE JlJ:=stp Jon Jvg λ_=>by kernel_rfl
abbrev JlA:=sigE 97 JCQ J1a::JlJ
theorem JCV:AE JlA:=stp Jn4 JBt λ_=>by kernel_rfl
abbrev JeP:=sigE 125 JuZ J5J::JlA
theorem Jtl:AE JeP:=stp JhX JCV λ_=>by kernel_rfl
abbrev JkE:=sigE 96 JAV J9Y::JeP
theorem JAm:AE JkE:=stp Joj Jtl λ_=>by kernel_rfl
abbrev Joc:=sigE 166 JDH Jb9::JkE
theorem JEu:AE Joc:=stp Jq1 JAm λ_=>by kernel_rfl
abbrev Jlm:=sigE 120 JC5 Jac::Joc
theorem JAM:AE Jlm:=stp JnN JEu λ_=>by kernel_rfl
abbrev Jof:=sigE 203 JEz J0u::Jlm
theorem JDQ:AE Jof:=stp Jpn JAM λ_=>by kernel_rfl
abbrev JhV:=sigE 239 JwS J8R::Jof
theorem JwX:AE JhV:=stp Jkw JDQ λ_=>by kernel_rfl
abbrev Jev:=sigE 214 Juu J7v::JhV
theorem Ju3:AE Jev:=stp JhL JwX λ_=>by kernel_rfl
abbrev Jo0:=sigE 215 JEd J8k::Jev
theorem JDG:AE Jo0:=stp JpG Ju3 λ_=>by kernel_rfl
abbrev Jch:=sigE 167 JqV J2R::Jo0
theorem JqI:AE Jch:=stp Jdt JDG λ_=>by kernel_rfl
abbrev Jhh:=sigE 122 Jxr J3Y::Jch
theorem Jxv:AE Jhh:=stp Jls JqI λ_=>by kernel_rfl
abbrev Jo8:=sigE 169 JEw J5u::Jhh
theorem JEb:AE Jo8:=stp JpD Jxv λ_=>by kernel_rfl
abbrev Jfm:=sigE 124 Jv3 J3A::Jo8
theorem Jtw:AE Jfm:=stp JhS JEb λ_=>by kernel_rfl
abbrev Jh7:=sigE 217 Jyz J3X::Jfm
theorem Jy5:AE Jh7:=stp Jl1 Jtw λ_=>by kernel_rfl
abbrev Jh0:=sigE 243 JyP JbQ::Jh7
theorem Jxk:AE Jh0:=stp JkA Jy5 λ_=>by kernel_rfl
abbrev Jkl:=sigE 240 JzB J9N::Jh0
theorem Jzy:AE Jkl:=stp Jnf Jxk λ_=>by kernel_rfl
abbrev JgK:=sigE 216 Jwm J8C::Jkl
theorem JxT:AE JgK:=stp JlG Jzy λ_=>by kernel_rfl
abbrev Jkb:=sigE 168 JCl J4M::JgK
theorem JAx:AE Jkb:=stp Job JxT λ_=>by kernel_rfl
abbrev JkC:=sigE 123 JBG J4G::Jkb
theorem JAT:AE JkC:=stp JmX JAx λ_=>by kernel_rfl
abbrev Jk0:=sigE 213 JCL J9V::JkC
theorem JA8:AE Jk0:=stp Jmo JAT λ_=>by kernel_rfl
abbrev Jfo:=sigE 212 JuW J7L::Jk0
theorem Jto:AE Jfo:=stp JhE JA8 λ_=>by kernel_rfl
abbrev Jl8:=sigE 165 JCn J4B::Jfo
theorem JCj:AE Jl8:=stp Jnn Jto λ_=>by kernel_rfl
abbrev Jlw:=sigE 119 JCy J4E::Jl8
theorem JBK:AE Jlw:=stp Jo9 JCj λ_=>by kernel_rfl
abbrev Ji7:=sigE 95 Jwz J27::Jlw
theorem Jx4:AE Ji7:=stp JjS JBK λ_=>by kernel_rfl
abbrev JjW:=sigE 83 JB5 Ja5::Ji7
theorem JA1:AE JjW:=stp JnF Jx4 λ_=>by kernel_rfl
abbrev Jen:=sigE 81 JuO J2v::JjW
theorem JuI:AE Jen:=stp JgE JA1 λ_=>by kernel_rfl
abbrev Jeb:=sigE 135 Jry J3b::Jen
theorem Jrt:AE Jeb:=stp JeB JuI λ_=>by kernel_rfl
abbrev JkQ:=sigE 189 JAA J5Q::Jeb
theorem JBd:AE JkQ:=stp Jnl Jrt λ_=>by kernel_rfl
abbrev Jng:=sigE 136 JDx J6q::JkQ
theorem JDu:AE Jng:=stp JpJ JBd λ_=>by kernel_rfl
abbrev JdT:=sigE 102 Jtc J6H::Jng
theorem JsF:AE JdT:=stp JeH JDu λ_=>by kernel_rfl
abbrev Jhj:=sigE 226 Jya J6l::JdT
theorem JyD:AE Jhj:=stp JjY JsF λ_=>by kernel_rfl
abbrev Jdz:=sigE 184 Jrh J6B::Jhj
theorem Jsk:AE Jdz:=stp JeW JyD λ_=>by kernel_rfl
abbrev J6a:=sigE 228 JrU J6P::Jdz
theorem Jg8:AE J6a:=stp JfD Jsk λ_=>by kernel_rfl
theorem Jv5(r x):onO (JjA g_ref09_closed x) (λy=>Jr1 (TG.of (sigE 229 g_ref09_closed r::J6a)) JaG y.1 y.2 (Jbk g_ref09_closed))=J4u r x:=by kernel_rfl
abbrev JeY:=sigE 229 g_ref09_closed JhG::J6a
theorem Jvw:AE JeY:=λp=>⟨JzP (fn:=JaG) (l:=J6a) rfl (Jg8 p) rfl Jv5 1100,Jg8 p⟩
abbrev Jha:=sigE 186 Jxz J8I::JeY
theorem JxH:AE Jha:=stp Jkh Jvw λ_=>by kernel_rfl
abbrev JeS:=sigE 225 JtW J2W::Jha
theorem JvG:AE JeS:=stp Jif JxH λ_=>by kernel_rfl
abbrev Jlx:=sigE 182 JAE J7g::JeS
theorem Jzu:AE Jlx:=stp Jn2 JvG λ_=>by kernel_rfl
abbrev Jko:=sigE 181 JCs J7b::Jlx
theorem JBO:AE Jko:=stp Jmm Jzu λ_=>by kernel_rfl
abbrev JiD:=sigE 230 Jxj J8z::Jko
theorem JxV:AE JiD:=stp JkL JBO λ_=>by kernel_rfl
abbrev Jnr:=sigE 187 JDb Jbm::JiD
theorem JDE:AE Jnr:=stp Jpu JxV λ_=>by kernel_rfl
abbrev JnK:=sigE 227 JDo Jbb::Jnr
theorem JEc:AE JnK:=stp Jq3 JDE λ_=>by kernel_rfl
abbrev Jeu:=sigE 185 JtB J3y::JnK
theorem JuH:AE Jeu:=stp Jhn JEc λ_=>by kernel_rfl
abbrev Jfi:=sigE 179 Jvf J3C::Jeu
theorem Jvl:AE Jfi:=stp JgZ JuH λ_=>by kernel_rfl
abbrev JfW:=sigE 223 Jtk J7M::Jfi
theorem Ju1:AE JfW:=stp JiS Jvl λ_=>by kernel_rfl
abbrev JcV:=sigE 224 Jth J6F::JfW
theorem Jsa:AE JcV:=stp JfO Ju1 λ_=>by kernel_rfl
abbrev Ji1:=sigE 180 Jx5 J3o::JcV
theorem Jxe:AE Ji1:=stp JkX Jsa λ_=>by kernel_rfl
abbrev JkW:=sigE 183 JCK J6Z::Ji1
theorem JBi:AE JkW:=stp JoC Jxe λ_=>by kernel_rfl
abbrev Jg6:=sigE 222 JtL J4s::JkW
theorem JtE:AE Jg6:=stp Jho JBi λ_=>by kernel_rfl
abbrev JcU:=sigE 178 Jst J2h::Jg6
theorem JrF:AE JcU:=stp Jff JtE λ_=>by kernel_rfl
abbrev JpR:=sigE 132 JFD J65::JcU
theorem JH4:AE JpR:=stp JrL JrF λ_=>by kernel_rfl
abbrev Jdp:=sigE 133 JsR J2C::JpR
theorem Jrq:AE Jdp:=stp JfZ JH4 λ_=>by kernel_rfl
abbrev Jcc:=sigE 134 JqB J2S::Jdp
theorem Jqf:AE Jcc:=stp JdL Jrq λ_=>by kernel_rfl
abbrev Jpw:=sigE 101 JHl Jcp::Jcc
theorem JFJ:AE Jpw:=stp Jt5 Jqf λ_=>by kernel_rfl
abbrev JjT:=sigE 137 JB6 J2l::Jpw
theorem JBI:AE JjT:=stp Jne JFJ λ_=>by kernel_rfl
abbrev Jkf:=sigE 103 JzQ Jaf::JjT
theorem JCx:AE Jkf:=stp Joo JBI λ_=>by kernel_rfl
abbrev Jpr:=sigE 87 JFS JcF::Jkf
theorem JHu:AE Jpr:=stp JrJ JCx λ_=>by kernel_rfl
abbrev J9d:=sigE 78 JjL J4j::Jpr
theorem JiZ:AE J9d:=stp Jaj JHu λ_=>by kernel_rfl
abbrev JlQ:=sigE 114 JD3 J9H::J9d
theorem JCO:AE JlQ:=stp JnW JiZ λ_=>by kernel_rfl
abbrev Ji4:=sigE 200 JwZ J6n::JlQ
theorem Jwo:AE Ji4:=stp JkP JCO λ_=>by kernel_rfl
abbrev JkM:=sigE 232 JCW J7i::Ji4
theorem JBj:AE JkM:=stp Jmg Jwo λ_=>by kernel_rfl
abbrev Jfl:=sigE 201 Jvz J7H::JkM
theorem Jts:AE Jfl:=stp JgV JBj λ_=>by kernel_rfl
abbrev Jio:=sigE 158 JwG J6k::Jfl
theorem JyG:AE Jio:=stp JlV Jts λ_=>by kernel_rfl
abbrev Jl2:=sigE 157 JAz J9F::Jio
theorem Jzo:AE Jl2:=stp Jnt JyG λ_=>by kernel_rfl
abbrev Jij:=sigE 115 Jx0 J47::Jl2
theorem JxP:AE Jij:=stp Jk8 Jzo λ_=>by kernel_rfl
abbrev JhF:=sigE 92 Jxu J8L::Jij
theorem Jxq:AE JhF:=stp JkJ JxP λ_=>by kernel_rfl
abbrev Jdk:=sigE 202 JsC J5k::JhF
theorem Jt4:AE Jdk:=stp Jg5 Jxq λ_=>by kernel_rfl
abbrev J9m:=sigE 235 JiW J37::Jdk
theorem Jjb:AE J9m:=stp J9S Jt4 λ_=>by kernel_rfl
abbrev J8o:=sigE 233 Ji6 J0v::J9m
theorem JiU:AE J8o:=stp J9i Jjb λ_=>by kernel_rfl
abbrev Jak:=sigE 234 Jm9 J3x::J8o
theorem Jm5:AE Jak:=stp Jao JiU λ_=>by kernel_rfl
abbrev Jg3:=sigE 204 JvI J7G::Jak
theorem Jtn:AE Jg3:=stp JiT Jm5 λ_=>by kernel_rfl
abbrev Jl6:=sigE 159 JAB Jai::Jg3
theorem JzY:AE Jl6:=stp JmU Jtn λ_=>by kernel_rfl
abbrev JkU:=sigE 242 JBX Jaa::Jl6
theorem JzX:AE JkU:=stp JmI JzY λ_=>by kernel_rfl
abbrev Jlp:=sigE 238 JzE Ja6::JkU
theorem JzI:AE Jlp:=stp JmV JzX λ_=>by kernel_rfl
abbrev JhM:=sigE 207 JxB J8u::Jlp
theorem JyL:AE JhM:=stp Jlj JzI λ_=>by kernel_rfl
abbrev JfA:=sigE 245 JuJ J7p::JhM
theorem JtQ:AE JfA:=stp Jhc JyL λ_=>by kernel_rfl
abbrev J8e:=sigE 246 Jid J0X::JfA
theorem Jik:AE J8e:=stp J99 JtQ λ_=>by kernel_rfl
abbrev Jam:=sigE 247 Jm6 J3w::J8e
theorem Jm3:AE Jam:=stp Jat Jik λ_=>by kernel_rfl
abbrev Jek:=sigE 244 JvB J7F::Jam
theorem Jvi:AE Jek:=stp Jhd Jm3 λ_=>by kernel_rfl
abbrev Jel:=sigE 241 Juv J7q::Jek
theorem Jtj:AE Jel:=stp JiJ Jvi λ_=>by kernel_rfl
abbrev Jf4:=sigE 236 Jvu J7o::Jel
theorem JvA:AE Jf4:=stp JiL Jtj λ_=>by kernel_rfl
abbrev JiQ:=sigE 205 JwU J8y::Jf4
theorem Jy6:AE JiQ:=stp Jk3 JvA λ_=>by kernel_rfl
abbrev JhU:=sigE 237 JyH J2M::JiQ
theorem JwM:AE JhU:=stp JlN Jy6 λ_=>by kernel_rfl
abbrev Jkz:=sigE 206 JBr J9z::JhU
theorem JBb:AE Jkz:=stp Joz JwM λ_=>by kernel_rfl
abbrev JdG:=sigE 160 Jrk J6A::Jkz
theorem JrR:AE JdG:=stp Jfj JBb λ_=>by kernel_rfl
abbrev Jih:=sigE 161 JxN J8F::JdG
theorem Jx1:AE Jih:=stp Jka JrR λ_=>by kernel_rfl
abbrev JkO:=sigE 116 JzS J9D::Jih
theorem JBs:AE JkO:=stp Jmq Jx1 λ_=>by kernel_rfl
abbrev Jld:=sigE 93 JBl J9w::JkO
theorem JzC:AE Jld:=stp Jo2 JBs λ_=>by kernel_rfl
abbrev J7W:=sigE 82 Jgs J3F::Jld
theorem Jgn:AE J7W:=stp J8h JzC λ_=>by kernel_rfl
abbrev J8r:=sigE 77 JhD J1m::J7W
theorem Jis:AE J8r:=stp J9a Jgn λ_=>by kernel_rfl
abbrev J8j:=sigE 67 JgR J3S::J8r
theorem Jhg:AE J8j:=stp J97 Jis λ_=>by kernel_rfl
abbrev Joy:=sigE 56 JDf Jbj::J8j
theorem JEs:AE Joy:=stp JpS Jhg λ_=>by kernel_rfl
abbrev J9h:=sigE 45 JjC J4i::Joy
theorem Jj5:AE J9h:=stp Jae JEs λ_=>by kernel_rfl
abbrev J9G:=sigE 32 Jm0 J4T::J9h
theorem Jma:AE J9G:=stp Jan Jj5 λ_=>by kernel_rfl
abbrev JpP:=sigE 21 JG7 Jcz::J9G
theorem JHj:AE JpP:=stp JrX Jma λ_=>by kernel_rfl
abbrev Jd5:=sigE 43 JrV J1g::JpP
theorem Jsl:AE Jd5:=stp Jfx JHj λ_=>by kernel_rfl
abbrev Jfg:=sigE 38 Juy J7K::Jd5
theorem Jtq:AE Jfg:=stp Jia Jsl λ_=>by kernel_rfl
abbrev Jd6:=sigE 35 JrP J1S::Jfg
theorem JsQ:AE Jd6:=stp Jg1 Jtq λ_=>by kernel_rfl
abbrev JgP:=sigE 29 JwY J1x::Jd6
theorem JxD:AE JgP:=stp Jkp JsQ λ_=>by kernel_rfl
abbrev Jlr:=sigE 22 JAl J3c::JgP
theorem JAW:AE Jlr:=stp Jmn JxD λ_=>by kernel_rfl
abbrev JgD:=sigE 9 JwV J3j::Jlr
theorem Jys:AE JgD:=stp Jl7 JAW λ_=>by kernel_rfl
abbrev J6S:=sigE 3 Jeh Jee::JgD
theorem Jef:AE J6S:=stp J7T Jys λ_=>by kernel_rfl
abbrev J3P:=sigE 28 J82 J0e::J6S
theorem J85:AE J3P:=λp=>⟨JKM rfl,Jef p⟩
abbrev J9g:=sigE 27 Jjq J60::J3P
theorem JiY:AE J9g:=stp J9Z J85 λ_=>by kernel_rfl
abbrev J2V:=sigE 26 J5W J19::J9g
theorem J5V:AE J2V:=stp J3u JiY λ_=>by kernel_rfl
abbrev JbD:=sigE 12 Jp7 J5D::J2V
theorem Jpf:AE JbD:=stp Jc2 J5V λ_=>by kernel_rfl
abbrev J9O:=sigE 13 Jm7 J2E::JbD
theorem Jm2:AE J9O:=stp Jaz Jpf λ_=>by kernel_rfl
abbrev JeU:=sigE 14 JuR J2T::J9O
theorem JuS:AE JeU:=stp JgB Jm2 λ_=>by kernel_rfl
abbrev JdR:=sigE 4 Jej J3s::JeU
theorem Jei:AE JdR:=stp J7V JuS λ_=>by kernel_rfl
end
end Go.Am
end
