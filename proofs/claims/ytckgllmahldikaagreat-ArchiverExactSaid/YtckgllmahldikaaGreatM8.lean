/-
  Parts of a proof.
-/
import Derived.Shelf.Strings.Builder1
import Derived.Shelf.Lays
import Derived.Test.YtckgllmahldikaaGreatProg
import Derived.Lib.Agree
import Derived.KernelRfl
import Derived.WalkKit
import Derived.BigCall
import Derived.Shelf.SlSortCmp.WholeK
import Derived.Shelf.SlLaysF0
import Derived.Test.YtckgllmahldikaaGreatChecked
import Derived.WalkSpells
import Derived.Tactics
import Derived.Tactics2
import Derived.Deep.RegionHeld3
import Derived.StillTactics
import Derived.Test.YtckgllmahldikaaGreatM2
import Derived.Test.YtckgllmahldikaaGreatM3
import Derived.Test.YtckgllmahldikaaGreatM4
import Derived.Test.YtckgllmahldikaaGreatM7
set_option linter.unusedSimpArgs false
set_option linter.unusedVariables false
set_option linter.unusedSectionVars false
set_option maxRecDepth 20000
set_option maxHeartbeats 4000000
open Option renaming some → Z,none → Y
open Bool renaming true → O,false → J
open Go.IntKind renaming i64 → I
section
namespace Go.Am
noncomputable section
theorem GB{i g S l f}(hf: ∀p,vB p i=Z (.fn (aM f)))(A:AE l)(q: ∀x,onO (gX g x) (λy=>lI (TG.of l) f y.1 y.2 (iB g))=S x):AE (bC i g S::l):=λp=>⟨wq (hf p) (A p) q,A p⟩
abbrev Hq:=aF 32 G2 kE::[]
theorem JrT:AE Hq:=by
 refine nO (λ_=>rfl) ?_ λ_=>by kernel_rfl
 exact ae0
abbrev Ij:=aF 61 Jk0 iy::Hq
theorem Jk1:AE Ij:=λp=>⟨kx rfl,JrT p⟩
abbrev Cv:=aF 146 By KE::aF 178 Jo2 ic::aF 170 Bn DL::aF 77 Ho RQ::aF 66 Gx FA::aF 76 JoM r6::aF 73 Jp2 FL::aF 74 Jqj nL::aF 125 ck nJ::aF 23 Ef EX::Ij
theorem JHp:AE Cv:=by
 iterate 10 refine nO (λ_=>rfl) ?_ λ_=>by kernel_rfl
 exact Jk1
abbrev Et:=aF 152 Wk Ul::aF 183 ZN FC::aF 182 AI nK::aF 179 AI jG::aF 180 ZN zU::aF 181 ZN wU::aF 217 ck EV::aF 218 Hz JR::aF 151 Zm sI::aF 140 G0 RN::Cv
theorem JA9:AE Et:=by
 iterate 10 refine nO (λ_=>rfl) ?_ λ_=>by kernel_rfl
 exact JHp
abbrev Hu:=bC 117 Jr2 LA::bC 115 r5 LB::aF 153 AI Ju::aF 122 qh KQ::aF 84 oz tZ::aF 142 Fc ZE::aF 174 H3 RV::aF 175 H4 RS::aF 173 If pG::aF 113 AI lG::Et
theorem Jrd:AE Hu:=by
 iterate 2 refine GB (λ_=>rfl) ?_ λ_=>by kernel_rfl
 iterate 8 refine nO (λ_=>rfl) ?_ λ_=>by kernel_rfl
 exact JA9
abbrev D6:=aF 92 r5 jZ::Hu
theorem Ci:AE D6:=by
 refine nO (λ_=>rfl) ?_ λ_=>by kernel_rfl
 exact Jrd
abbrev jd:=bC 196 g_slices_swapRangeCmpFunc_api_File__0 Jc7::bC 226 g_slices_swapRangeCmpFunc_api_File__0 JaE::bC 159 J95 J99::aF 78 oz iu::aF 71 Jqi KX::aF 98 Eb XT::aF 141 Jto KS::aF 172 JoO xB::aF 171 S9 r7::aF 216 S9 ye::D6
theorem Tc:AE jd:=by
 iterate 3 refine GB (λ_=>rfl) ?_ λ_=>by kernel_rfl
 iterate 7 refine nO (λ_=>rfl) ?_ λ_=>by kernel_rfl
 exact Ci
theorem JaJ(r x):onO (gX g_slices_swapRangeCmpFunc_api_File__0 x) (λy=>lI (TG.of (bC 160 g_slices_swapRangeCmpFunc_api_File__0 r::jd)) yg y.1 y.2 (iB g_slices_swapRangeCmpFunc_api_File__0))=Tj r x:=by kernel_rfl
abbrev Tm:=bC 160 g_slices_swapRangeCmpFunc_api_File__0 JaK::jd
theorem Jb8:AE Tm:=λp=>⟨TF (fn:=yg) (l:=jd) rfl (Tc p) JaJ 100,Tc p⟩
abbrev H2:=aF 83 Jos FK::aF 39 F3 pF::aF 87 Jet SC::aF 131 ck nJ::aF 130 Fe ZG::aF 30 Gl sQ::aF 75 J94 jg::bC 72 J8p Tr::bC 124 Jc3 JbZ::Tm
theorem JoT:AE H2:=by
 iterate 7 refine nO (λ_=>rfl) ?_ λ_=>by kernel_rfl
 iterate 2 refine GB (λ_=>rfl) ?_ λ_=>by kernel_rfl
 exact Jb8
abbrev Tf:=aF 128 Jc0 Td::H2
theorem Jc6:AE Tf:=λp=>⟨kx rfl,JoT p⟩
abbrev jf:=bC 197 g_slices_swapRangeCmpFunc_archiver_named__0 J9q::bC 227 g_slices_swapRangeCmpFunc_archiver_named__0 J8x::bC 161 J7E J7D::aF 85 G7 FE::aF 127 J8X jj::bC 114 J92 yj::aF 129 Jnj RW::Tf
theorem Tn:AE jf:=by
 iterate 3 refine GB (λ_=>rfl) ?_ λ_=>by kernel_rfl
 iterate 2 refine nO (λ_=>rfl) ?_ λ_=>by kernel_rfl
 refine GB (λ_=>rfl) ?_ λ_=>by kernel_rfl
 refine nO (λ_=>rfl) ?_ λ_=>by kernel_rfl
 exact Jc6
theorem J8F(r x):onO (gX g_slices_swapRangeCmpFunc_archiver_named__0 x) (λy=>lI (TG.of (bC 162 g_slices_swapRangeCmpFunc_archiver_named__0 r::jf)) yi y.1 y.2 (iB g_slices_swapRangeCmpFunc_archiver_named__0))=Ts r x:=by kernel_rfl
abbrev Tq:=bC 162 g_slices_swapRangeCmpFunc_archiver_named__0 J8Y::jf
theorem J8P:AE Tq:=λp=>⟨TF (fn:=yi) (l:=jf) rfl (Tn p) J8F 100,Tn p⟩
abbrev G6:=aF 62 Gz ZX::aF 112 pg lE::aF 65 AI Ju::aF 34 F0 mD::aF 80 Ii RX::aF 81 S8 SB::aF 35 Gw qO::bC 82 J5y yo::bC 126 J9d J9x::Tq
theorem Ju9:AE G6:=by
 iterate 7 refine nO (λ_=>rfl) ?_ λ_=>by kernel_rfl
 iterate 2 refine GB (λ_=>rfl) ?_ λ_=>by kernel_rfl
 exact J8P
abbrev Cg:=aF 145 B1 fP::G6
theorem JH8:AE Cg:=λp=>⟨JQj rfl,Ju9 p⟩
abbrev Cf:=aF 102 B6 zH::Cg
theorem Bw:AE Cf:=by
 refine nO (λ_=>rfl) ?_ λ_=>by kernel_rfl
 exact JH8
abbrev El:=aF 101 Ds nF::Cf
theorem Dm:AE El:=by
 refine nO (λ_=>rfl) ?_ λ_=>by kernel_rfl
 exact Bw
abbrev Ge:=aF 103 E8 oV::aF 147 B3 OR::El
theorem Ez:AE Ge:=by
 iterate 2 refine nO (λ_=>rfl) ?_ λ_=>by kernel_rfl
 exact Dm
noncomputable def BX:PS:=λf=>if f=51 then Z (AM cZ EQ)else Y
theorem Tu:vB BX 51=Z (.prim (AM cZ EQ)):=rfl
def AD(l:List TE):Prop:=uU (AF (vB BX)) l
theorem eD{i g S l f}(hf:vB BX i=Z (.fn (aM f)))(A:AD l)(q: ∀x,onO (gX g x) (λy=>lI (TG.of l) f y.1 y.2 (iB g))=S x)(hs:HU g=O:=by rfl):AD (aF i g S::l):=⟨uu hf A hs q,A⟩
theorem MH{i g S l f}(hf:vB BX i=Z (.fn (aM f)))(A:AD l)(q: ∀x,onO (gX g x) (λy=>lI (TG.of l) f y.1 y.2 (iB g))=S x):AD (bC i g S::l):=⟨wq hf A q,A⟩
abbrev Er:=aF 51 D1 EQ::Ge
theorem JAg:AD Er:=⟨JRS Tu,Ez BX⟩
abbrev Tl:=bC 120 Jb7 SD::aF 119 qh AG::aF 116 AI ZL::Er
theorem JaU:AD Tl:=by
 refine MH rfl ?_ λ_=>by kernel_rfl
 iterate 2 refine eD rfl ?_ λ_=>by kernel_rfl
 exact JAg
abbrev Ti:=bC 121 JaA SE::Tl
theorem JaB:AD Ti:=⟨JS8 (t:=J3) (N:=Ja8) rfl,JaU⟩
abbrev je:=bC 219 g_slices_swapRangeCmpFunc_api_Entry__0 Jbo::bC 240 g_slices_swapRangeCmpFunc_api_Entry__0 Jaa::bC 184 J8K J8U::bC 117 Jr6 RK::aF 63 J8s jk::bC 114 J97 jh::bC 115 Jo0 ib::Ti
theorem Te:AD je:=by
 iterate 4 refine MH rfl ?_ λ_=>by kernel_rfl
 refine eD rfl ?_ λ_=>by kernel_rfl
 iterate 2 refine MH rfl ?_ λ_=>by kernel_rfl
 exact JaB
theorem JaC(r x):onO (gX g_slices_swapRangeCmpFunc_api_Entry__0 x) (λy=>lI (TG.of (bC 185 g_slices_swapRangeCmpFunc_api_Entry__0 r::je)) yh y.1 y.2 (iB g_slices_swapRangeCmpFunc_api_Entry__0))=Tk r x:=by kernel_rfl
abbrev Tg:=bC 185 g_slices_swapRangeCmpFunc_api_Entry__0 Jay::je
theorem JaF:AD Tg:=⟨TF (fn:=yh) (l:=je) rfl (Te) JaC 100,Te⟩
abbrev Cj:=aF 67 B4 OT::bC 118 J7J yk::bC 154 JbA Jbz::Tg
theorem JHx:AD Cj:=by
 refine eD rfl ?_ λ_=>by kernel_rfl
 iterate 2 refine MH rfl ?_ λ_=>by kernel_rfl
 exact JaF
abbrev Ta:=aF 53 Jd1 yf::Cj
theorem JcY:AD Ta:=⟨kx rfl,JHx⟩
abbrev g8:=aF 26 Gt wP::aF 63 J8t jl::bC 114 J96 ji::aF 64 Jp3 LC::Ta
theorem Fs:AD g8:=by
 iterate 2 refine eD rfl ?_ λ_=>by kernel_rfl
 refine MH rfl ?_ λ_=>by kernel_rfl
 refine eD rfl ?_ λ_=>by kernel_rfl
 exact JcY
theorem Jqm(r x):onO (gX g_draw_Codes_Next x) (λy=>lI (TG.of (aF 25 g_draw_Codes_Next r::g8)) rh y.1 y.2 (iB g_draw_Codes_Next))=KW r x:=by kernel_rfl
abbrev Hy:=aF 25 g_draw_Codes_Next J7::g8
theorem Jqr:AD Hy:=⟨xz (fn:=rh) (l:=g8) rfl (Fs) rfl Jqm 100,Fs⟩
abbrev Cn:=aF 31 Ef DN::aF 79 Zd wR::aF 24 JAo XY::aF 22 Wc RC::aF 10 JJc wG::aF 41 Jns wY::aF 89 Jln ir::aF 132 JjS i5::aF 133 Jq9 wZ::aF 14 Jrn JI::Hy
theorem JGC:AD Cn:=by
 iterate 10 refine eD rfl ?_ λ_=>by kernel_rfl
 exact Jqr
abbrev Ev:=aF 108 Ds qL::aF 149 By tX::aF 148 B1 JE::aF 69 Gz eQ::aF 70 pg lE::aF 123 AI JJ::aF 157 JAi sD::aF 195 ZN mG::aF 225 Hz JR::aF 158 Fe mH::Cn
theorem V1:AD Ev:=by
 iterate 10 refine eD rfl ?_ λ_=>by kernel_rfl
 exact JGC
abbrev Di:=aF 90 B4 zQ::aF 60 X0 zW::aF 58 D1 oW::aF 107 r5 fA::aF 134 JsU lH::aF 111 qh mE::aF 68 AI Ju::aF 109 B6 zR::aF 110 E8 sL::aF 150 B3 DR::Ev
theorem JDy:AD Di:=by
 iterate 10 refine eD rfl ?_ λ_=>by kernel_rfl
 exact V1
abbrev F4:=aF 164 Yr JW::aF 165 Fc zY::aF 200 H3 FH::aF 199 If mI::aF 201 H4 FI::aF 163 G0 sP::aF 198 Bn JT::aF 42 Gt oQ::aF 33 G2 jY::aF 88 Gx iW::Di
theorem Zp:AD F4:=by
 iterate 10 refine eD rfl ?_ λ_=>by kernel_rfl
 exact JDy
abbrev H6:=aF 48 Jnf ij::aF 12 Yh ZM::aF 19 JEs XA::aF 16 JFy XK::aF 57 V9 YM::aF 56 Va EN::aF 106 G7 RJ::aF 91 Zj RF::aF 136 Ho sS::aF 135 Eb zV::F4
theorem Jnq:AD H6:=by
 iterate 10 refine eD rfl ?_ λ_=>by kernel_rfl
 exact Zp
abbrev Cc:=aF 166 JGm WP::aF 203 JGH OW::aF 202 JHf OX::aF 204 JGI JGj::aF 167 JGv WT::aF 205 Yl YQ::aF 139 Jkv io::aF 169 Jqf g9::aF 215 Jne RU::aF 13 Tx qP::H6
theorem JGE:AD Cc:=by
 iterate 10 refine eD rfl ?_ λ_=>by kernel_rfl
 exact Jnq
abbrev Hl:=aF 328 re wQ::aF 260 Ur EK::aF 242 Dq QZ::aF 273 Co nH::aF 272 T1 jX::aF 317 JAt sC::aF 214 Eo JC::aF 47 pg zT::aF 46 JAr uC::aF 137 JH0 WS::Cc
theorem Jsi:AD Hl:=by
 iterate 10 refine eD rfl ?_ λ_=>by kernel_rfl
 exact JGE
abbrev Ew:=aF 303 JAG oS::aF 346 ck IY::aF 248 JA3 fG::aF 280 pj qQ::aF 330 pj sR::aF 331 pj sG::aF 302 Wf nE::aF 345 JEe tV::aF 344 re DU::aF 343 Ub KJ::Hl
theorem Uq:AD Ew:=by
 iterate 10 refine eD rfl ?_ λ_=>by kernel_rfl
 exact Jsi
abbrev Df:=aF 292 Co iJ::aF 296 JG4 tW::aF 339 JGZ WQ::aF 294 JGQ gQ::aF 293 JuP oX::aF 206 Dc XU::aF 228 Du YA::aF 236 D3 JO::aF 259 D3 ED::aF 304 Joh xA::Ew
theorem JDM:AD Df:=by
 iterate 10 refine eD rfl ?_ λ_=>by kernel_rfl
 exact Uq
abbrev Fl:=aF 291 Zo ZC::aF 255 JGo jW::aF 263 Cs zS::aF 246 JHn sA::aF 231 Cu mC::aF 249 Cu nG::aF 295 JCs gU::aF 338 Zs uB::aF 337 JGk sB::aF 336 Xk KO::Df
theorem Zh:AD Fl:=by
 iterate 10 refine eD rfl ?_ λ_=>by kernel_rfl
 exact JDM
abbrev Es:=aF 230 Vr EG::aF 247 V8 uE::aF 210 Dc ie::aF 233 Du XB::aF 253 JL3 WF::aF 288 JAA QV::aF 254 Y9 YY::aF 289 JAz QY::aF 290 Xm YT::aF 335 JtN RI::Fl
theorem JAe:AD Es:=by
 iterate 10 refine eD rfl ?_ λ_=>by kernel_rfl
 exact Zh
abbrev Dr:=aF 286 qu oP::aF 283 Yt uA::aF 332 Vj wL::aF 366 V5 wM::aF 285 Vy oU::aF 333 qu RP::aF 284 JCm PG::aF 250 Wx KR::aF 282 Dx EE::aF 281 Uf sH::Es
theorem JFU:AD Dr:=by
 iterate 10 refine eD rfl ?_ λ_=>by kernel_rfl
 exact JAe
abbrev Fq:=aF 310 W1 AA::aF 354 Ck WX::aF 353 JBx XG::aF 311 JCM DO::aF 209 pu XQ::aF 232 JAI zP::aF 252 JtW EZ::aF 287 Tw XW::aF 334 JHj oM::aF 251 T4 YB::Dr
theorem Xn:AD Fq:=by
 iterate 10 refine eD rfl ?_ λ_=>by kernel_rfl
 exact JFU
abbrev F8:=aF 315 Y6 wT::aF 356 JKv DK::aF 314 JGW KB::aF 355 Yi ZA::aF 316 JDP PD::aF 312 JuA ZZ::aF 313 JA5 zM::aF 270 JE6 wJ::aF 268 Jt7 pE::aF 269 Gp ES::Fq
theorem Xo:AD F8:=by
 iterate 10 refine eD rfl ?_ λ_=>by kernel_rfl
 exact Xn
abbrev Hp:=aF 307 JrO FG::aF 350 JHb OV::aF 349 X6 YS::aF 370 Wh XZ::aF 262 JEI WZ::aF 306 JGG WN::aF 238 JDx XE::aF 267 Yd RG::aF 239 Cd kZ::aF 271 JFs qK::F8
theorem JrB:AD Hp:=by
 iterate 10 refine eD rfl ?_ λ_=>by kernel_rfl
 exact Xo
abbrev Ee:=aF 348 JFB XI::aF 265 JEj DX::aF 308 JF3 DP::aF 351 V2 YL::aF 371 JBN XJ::aF 374 JAH pk::aF 352 JAp EO::aF 266 Ya EW::aF 309 JHw DM::aF 264 Uc EM::Hp
theorem JCv:AD Ee:=by
 iterate 10 refine eD rfl ?_ λ_=>by kernel_rfl
 exact JrB
abbrev He:=aF 244 JuD ZV::aF 278 B8 KC::aF 329 qu oP::aF 277 JsC EY::aF 211 Eo wV::aF 213 JDI XD::aF 237 pu sE::aF 261 JFd DY::aF 305 JF5 EB::aF 347 Yg ZJ::Ee
theorem JtP:AD He:=by
 iterate 10 refine eD rfl ?_ λ_=>by kernel_rfl
 exact JCv
abbrev g7:=aF 363 Jt1 ZP::aF 324 Jsl cm::aF 361 Uo QW::He
theorem Fz:AD g7:=by
 iterate 3 refine eD rfl ?_ λ_=>by kernel_rfl
 exact JtP
theorem X8(r x):onO (gX g_ref09_closed x) (λy=>lI (TG.of (aF 364 g_ref09_closed r::g7)) qp y.1 y.2 (iB g_ref09_closed))=KN r x:=by kernel_rfl
abbrev Gu:=aF 364 g_ref09_closed Fa::g7
theorem Xd:AD Gu:=⟨xz (fn:=qp) (l:=g7) rfl (Fz) rfl X8 1100,Fz⟩
abbrev Fg:=aF 358 Gp ZH::aF 319 Cd EU::aF 325 E1 ER::aF 362 JGn WM::aF 327 Cs WU::aF 365 oz XR::aF 321 Dq PC::aF 322 JD7 PB::aF 360 Yw zX::aF 326 B8 YF::Gu
theorem Zr:AD Fg:=by
 iterate 10 refine eD rfl ?_ λ_=>by kernel_rfl
 exact Xd
abbrev Do:=aF 279 JDJ sJ::aF 243 As VZ::aF 276 pu FD::aF 275 Ju4 AH::aF 274 E1 DJ::aF 318 JtC wX::aF 357 Za KP::aF 323 JFA PF::aF 320 Wa zL::aF 359 JuH ZY::Fg
theorem JEk:AD Do:=by
 iterate 10 refine eD rfl ?_ λ_=>by kernel_rfl
 exact Zr
abbrev Dy:=aF 373 re DU::aF 299 JD3 WV::aF 234 T9 YD::aF 257 We EH::aF 297 Dx XN::aF 298 Ws QX::aF 256 JFV XM::aF 208 ya iv::aF 229 As WC::aF 245 JCa WY::Do
theorem JCj:AD Dy:=by
 iterate 10 refine eD rfl ?_ λ_=>by kernel_rfl
 exact JEk
abbrev E6:=aF 368 JAv wO::aF 340 D8 XS::aF 367 Xg YX::aF 372 X4 YU::aF 375 Xa YP::aF 378 Jnm RR::aF 377 Jl7 uI::aF 376 Yo YW::aF 342 T3 XV::aF 369 Ck XC::Dy
theorem Wo:AD E6:=by
 iterate 10 refine eD rfl ?_ λ_=>by kernel_rfl
 exact JCj
abbrev Ie:=aF 95 Jme iw::aF 138 JGa WI::aF 168 ya it::aF 207 JkL AJ::aF 212 ya iz::aF 235 C2 XF::aF 258 C2 XO::aF 301 U7 YH::aF 300 D8 ct::aF 341 JE2 XP::E6
theorem Jly:AD Ie:=by
 iterate 10 refine eD rfl ?_ λ_=>by kernel_rfl
 exact Wo
abbrev D9:=aF 86 JEG XL::aF 20 Jnn LD::aF 17 F0 gR::aF 59 S8 KV::aF 36 Gw tU::aF 40 F3 tT::aF 43 Gl sK::aF 38 Ii oN::aF 11 JJM WG::aF 45 Jnc ii::Ie
theorem JCw:AD D9:=by
 iterate 10 refine eD rfl ?_ λ_=>by kernel_rfl
 exact Jly
abbrev JjX:=aF 8 Jlh il::aF 37 Js0 sO::D9
theorem Jku:AD JjX:=by
 iterate 2 refine eD rfl ?_ λ_=>by kernel_rfl
 exact JCw
end
end Go.Am
end
section
namespace Go.Proofs
open Go.Shelf Go.RowKit
def Tryz.ρA:Ren where
 f:=fun
  |99=>171
  |166=>100
  |169=>104
  |206=>216
  |240=>144
  |276=>176
  |167=>177
  |n=>n
 t:=fun
  |9=>9
  |3=>3
  |4=>4
  |20=>20
  |0=>0
  |46=>178
  |5=>5
  |72=>160
  |76=>163
  |51=>197
  |53=>245
  |70=>158
  |37=>22
  |75=>162
  |127=>202
  |164=>242
  |80=>167
  |n=>n
 g:=λn=>n
theorem Tryz.laysWS:Lays.n166 Tryz.prog Tryz.ρA where
 mixed:=by kernel_rfl
 f166:=by kernel_rfl
 f240:=by kernel_rfl
 f276:=by kernel_rfl
 t0:=Tryz.underlying0
 a0:=Tryz.isAgg0
 z0:=Tryz.sizeOf0
 v0:=Tryz.zeroValue0
 t3:=Tryz.underlying3
 a3:=Tryz.isAgg3
 z3:=Tryz.sizeOf3
 v3:=Tryz.zeroValue3
 t4:=Tryz.underlying4
 a4:=Tryz.isAgg4
 z4:=Tryz.sizeOf4
 v4:=Tryz.zeroValue4
 t9:=Tryz.underlying9
 a9:=Tryz.isAgg9
 z9:=Tryz.sizeOf9
 v9:=Tryz.zeroValue9
 t20:=Tryz.underlying20
 a20:=Tryz.isAgg20
 z20:=Tryz.sizeOf20
 v20:=Tryz.zeroValue20
 t37:=Tryz.underlying22
 a37:=Tryz.isAgg22
 z37:=Tryz.sizeOf22
 v37:=Tryz.zeroValue22
 t70:=Tryz.underlying158
 a70:=Tryz.isAgg158
 z70:=Tryz.sizeOf158
 v70:=Tryz.zeroValue158
 t72:=Tryz.underlying160
 a72:=Tryz.isAgg160
 z72:=Tryz.sizeOf160
 v72:=Tryz.zeroValue160
 t75:=Tryz.underlying162
 a75:=Tryz.isAgg162
 z75:=Tryz.sizeOf162
 v75:=Tryz.zeroValue162
 t164:=Tryz.underlying242
 a164:=Tryz.isAgg242
 z164:=Tryz.sizeOf242
 v164:=Tryz.zeroValue242
theorem Tryz.laysST:Lays.n169 Tryz.prog Tryz.ρA where
 mixed:=by kernel_rfl
 f169:=by kernel_rfl
 t0:=Tryz.underlying0
 a0:=Tryz.isAgg0
 z0:=Tryz.sizeOf0
 v0:=Tryz.zeroValue0
 t3:=Tryz.underlying3
 a3:=Tryz.isAgg3
 z3:=Tryz.sizeOf3
 v3:=Tryz.zeroValue3
 t9:=Tryz.underlying9
 a9:=Tryz.isAgg9
 z9:=Tryz.sizeOf9
 v9:=Tryz.zeroValue9
 t37:=Tryz.underlying22
 a37:=Tryz.isAgg22
 z37:=Tryz.sizeOf22
 v37:=Tryz.zeroValue22
 t70:=Tryz.underlying158
 a70:=Tryz.isAgg158
 z70:=Tryz.sizeOf158
 v70:=Tryz.zeroValue158
 t72:=Tryz.underlying160
 a72:=Tryz.isAgg160
 z72:=Tryz.sizeOf160
 v72:=Tryz.zeroValue160
 t127:=Tryz.underlying202
 a127:=Tryz.isAgg202
 z127:=Tryz.sizeOf202
 v127:=Tryz.zeroValue202
theorem Tryz.laysWB:Lays.n167 Tryz.prog Tryz.ρA where
 mixed:=by kernel_rfl
 f167:=by kernel_rfl
 f240:=by kernel_rfl
 f276:=by kernel_rfl
 t0:=Tryz.underlying0
 a0:=Tryz.isAgg0
 z0:=Tryz.sizeOf0
 v0:=Tryz.zeroValue0
 t4:=Tryz.underlying4
 a4:=Tryz.isAgg4
 z4:=Tryz.sizeOf4
 v4:=Tryz.zeroValue4
 t5:=Tryz.underlying5
 a5:=Tryz.isAgg5
 z5:=Tryz.sizeOf5
 v5:=Tryz.zeroValue5
 t9:=Tryz.underlying9
 a9:=Tryz.isAgg9
 z9:=Tryz.sizeOf9
 v9:=Tryz.zeroValue9
 t20:=Tryz.underlying20
 a20:=Tryz.isAgg20
 z20:=Tryz.sizeOf20
 v20:=Tryz.zeroValue20
 t37:=Tryz.underlying22
 a37:=Tryz.isAgg22
 z37:=Tryz.sizeOf22
 v37:=Tryz.zeroValue22
 t70:=Tryz.underlying158
 a70:=Tryz.isAgg158
 z70:=Tryz.sizeOf158
 v70:=Tryz.zeroValue158
 t72:=Tryz.underlying160
 a72:=Tryz.isAgg160
 z72:=Tryz.sizeOf160
 v72:=Tryz.zeroValue160
 t75:=Tryz.underlying162
 a75:=Tryz.isAgg162
 z75:=Tryz.sizeOf162
 v75:=Tryz.zeroValue162
 t164:=Tryz.underlying242
 a164:=Tryz.isAgg242
 z164:=Tryz.sizeOf242
 v164:=Tryz.zeroValue242
theorem Tryz.extraRep:Builder.Extra Tryz.prog Tryz.ρA where
 sizeBuilder:=by kernel_rfl
 liesBuilder:=by kernel_rfl
 t5:=Tryz.underlying5
 a5:=Tryz.isAgg5
 z5:=Tryz.sizeOf5
 v5:=Tryz.zeroValue5
 infoByte:=by kernel_rfl
 cellsByte:=by kernel_rfl
 sizeByte:=by kernel_rfl
 neB5:=by decide
theorem Tryz.WriteByte(B b:Nat)(bs:List Value)(c:Int)(w:World)(h:Lib.IsBuilder 160 5 B b bs w)(hlen:bs.length+1<=140737488355328)(g:B<=w.heap.size):
  Calls Tryz.prog 177 #[.pointer (some ⟨b,0,none⟩),.int .u8 c] w λe w'=>e=.returned .nilIface/\(Lib.BuilderAt 160 5 B b (.pointer (some ⟨b,0,none⟩)) (bs++[.int .u8 c]) w'/\Below B w w'):=
 Any.Builder_WriteByte Tryz.laysWB Tryz.extraRep B b bs c w h hlen g
theorem Tryz.WriteString(B b:Nat)(bs:List Value)(s:ByteArray)(w:World)(h:Lib.IsBuilder 160 5 B b bs w)(hlen:bs.length+s.size<=140737488355328)(g:B<=w.heap.size):
  Calls Tryz.prog 100 #[.pointer (some ⟨b,0,none⟩),.string s] w λe w'=>e=.returned (.tuple #[.int .i64 s.size,.nilIface])/\(Lib.BuilderAt 160 5 B b (.pointer (some ⟨b,0,none⟩)) (bs++Lib.strCells s) w'/\Below B w w'):=
 Any.Builder_WriteString Tryz.laysWS Tryz.extraRep B b bs s w h hlen g
theorem Tryz.String(B b:Nat)(l:List UInt8)(w:World)(h:Lib.IsBuilder 160 5 B b (Lib.byteCells l) w)(g:B<=w.heap.size):
  Calls Tryz.prog 104 #[.pointer (some ⟨b,0,none⟩)] w λe w'=>e=.returned (.string ⟨l.toArray⟩)/\Below B w w':=
 Any.Builder_String_any Tryz.laysST Tryz.extraRep B b l w h g
theorem Yb(l:List UInt8)(n:Int)(k:Nat):Lib.byteCells (l++Am.J5Z n k)++[.int .u8 (Am.Jb4 n k)]=Lib.byteCells (l++Am.J5Z n (k+1)):=by
 rw[Am.JMO,<-List.append_assoc,Lib.byteCells_append (l++Am.J5Z n k)]
 congr 1
 show [Value.int .u8 _]=[Value.int .u8 ((UInt8.ofNat (Am.Jb4 n k).toNat).toNat:Int)];rw[Am.JL1]
set_option maxHeartbeats 6400000 in
set_option maxRecDepth 100000 in
theorem Tryz.put(s:ByteArray)(n:Int)(k:Nat)(hk:1<=k)(B:k<=8)(hs:s.size+8<=140737488355328)(w:World):
  Calls Tryz.prog 145 #[.string s,.int .i64 n,.int .i64 k] w λe w'=>e=.returned (.string ⟨(s.data.toList++Am.J5Z n k).toArray⟩)/\Below w.heap.size w w':=by
 have C:s.data.toList.length=s.size:=(Lib.size_eq s).symm;have r:Lib.IsBuilder 160 5 w.heap.size w.heap.size [] (w.alloc (.cells #[.pointer none,.slice none 0 0] 160)):=Lib.fresh_isBuilder 160 5 w;have g:Below w.heap.size w (w.alloc (.cells #[.pointer none,.slice none 0 0] 160)):=(Below.refl _ w).alloc (Nat.le_refl _) _
 go_enter Tryz.func145,Tryz.ntmps145
 go_wp2_with (go_at_call 100;refine(Tryz.WriteString w.heap.size w.heap.size [] s _ r (by simp;omega) g.size).mono ?_)
 rintro e x ⟨rfl,h1,b1⟩;have o:Lib.IsBuilder 160 5 w.heap.size w.heap.size (Lib.byteCells (s.data.toList++Am.J5Z n 0)) x:=by rw[List.nil_append,Lib.strCells_eq]at h1;have v:Am.J5Z n 0=[]:=rfl;rw[v,List.append_nil];exact Or.inr h1
 have q:=g.trans b1;clear h1 b1 r g
 go_wp2
 go_loopw [19] (λi wr=> ∃j:Nat,j<=k/\i=.int .i64 j/\Lib.IsBuilder 160 5 w.heap.size w.heap.size (Lib.byteCells (s.data.toList++Am.J5Z n j)) wr/\Below w.heap.size w wr)
  (λi _=>k-(intOf i).toNat)
 case atStart=>exact⟨0,Nat.zero_le _,rfl,o,q⟩
 case round=>
  obtain⟨j,D,rfl,h,hb⟩:=hrel;by_cases A:j<k
  ·go_wp2_with (go_at_call 177;refine(Tryz.WriteByte w.heap.size w.heap.size _ _ _ h (by rw[Lib.byteCells_length,List.length_append,Am.JGA];omega) hb.size).mono ?_;rintro e y ⟨rfl,h2,b2⟩)
   have z:Am.Jb4 n j=IntKind.u64.wrap n/2^(8*j)%256:=by show((IntKind.wrap .u64 n).fdiv (2^(8*j)))%256=_;rw[Int.fdiv_eq_ediv_of_nonneg _ (Int.le_of_lt (Int.pow_pos (by decide)))]
   rw[<-z,Yb]at h2;exact⟨⟨j+1,by omega,by simp,Or.inr h2,hb.trans b2⟩,by simp[intOf];omega⟩
  ·obtain rfl:j=k:=by omega
   go_wp2_with (go_at_call 104;refine(Tryz.String w.heap.size w.heap.size _ _ h hb.size).mono ?_;rintro e y ⟨rfl,b2⟩)
   go_wp2
   go_ret
   exact⟨rfl,hb.trans b2⟩
theorem Tryz.put_out(s:ByteArray)(n k:Int)(hk:k<1\/8<k)(w:World):
  Calls Tryz.prog 145 #[.string s,.int .i64 n,.int .i64 k] w λe w'=>e=.returned (.string s)/\Below w.heap.size w w':=by
 go_enter Tryz.func145,Tryz.ntmps145
 go_wp2
 all_goals (go_ret;exact⟨rfl,Below.refl _ _⟩)
theorem JPB(l:List UInt8):(⟨l.toArray⟩:ByteArray).data.toList=l:=rfl
theorem JER(args:List Am.AV)(_q:List Am._x)(r:Am.Res)(h:Am.JJC args _q=some r):Am.J6J Tryz.prog 145 args _q r:=by
 unfold Am.JJC at h;split at h;rename_i bl l n k;obtain⟨x,e,rfl⟩:=Option.map_eq_some_iff.1 h;unfold Am.JqY at e;split at e;rename_i hc;cases e;exact Am.JJ1 (xs:=[.s l,.i .i64 n,.i .i64 k]) (vs:=[.string ⟨l.toArray⟩,.int .i64 n,.int .i64 k]) (v:=.string ⟨l.toArray⟩) ⟨_,Tryz.func145,by decide,by decide⟩ rfl rfl λw=>Tryz.put_out _ n k hc w;rename_i hc;split at e;rename_i h2;cases e;refine Am.JJ1 (xs:=[.s l,.i .i64 n,.i .i64 k]) (vs:=[.string ⟨l.toArray⟩,.int .i64 n,.int .i64 k]) (v:=.string ⟨(l++Am.J5Z n k.toNat).toArray⟩) ⟨_,Tryz.func145,by decide,by decide⟩ rfl rfl λw=>?_;have g:=Tryz.put ⟨l.toArray⟩ n k.toNat (by omega) (by omega) (by rw[Lib.size_eq];exact h2) w;rw[JPB,show((k.toNat:Nat):Int)=k by omega]at g;exact g;cases e;cases h
end Go.Proofs
end
section
namespace Go.Proofs
open Go.Shelf Go.RowKit Go.Lib Go.Sort
def Tryz.ρS:Ren where
 f:=fun
  |6=>121
  |14=>155
  |15=>156
  |20=>184
  |21=>186
  |22=>187
  |23=>188
  |24=>189
  |25=>190
  |26=>191
  |27=>192
  |28=>193
  |29=>194
  |46=>220
  |47=>221
  |48=>222
  |49=>223
  |50=>224
  |57=>241
  |n=>n
 t:=fun
  |0=>0
  |3=>3
  |4=>4
  |5=>5
  |9=>9
  |22=>26
  |24=>64
  |25=>169
  |39=>178
  |45=>249
  |46=>250
  |50=>142
  |53=>197
  |55=>245
  |66=>275
  |70=>279
  |76=>305
  |77=>122
  |n=>n
 g:=λn=>n
set_option maxRecDepth 100000 in
theorem Tryz.laysSort:SlLaysF0.n6 Tryz.prog Tryz.ρS where
 mixed:=by kernel_rfl
 f6:=⟨"slices.SortFunc[[]pagemend/api.Entry,pagemend/api.Entry]",by decide,by kernel_rfl⟩
 f14:=⟨"slices.pdqsortCmpFunc[pagemend/api.Entry]",by decide,by kernel_rfl⟩
 f15:=by kernel_rfl
 f20:=⟨"slices.insertionSortCmpFunc[pagemend/api.Entry]",by decide,by kernel_rfl⟩
 f21:=⟨"slices.heapSortCmpFunc[pagemend/api.Entry]",by decide,by kernel_rfl⟩
 f22:=⟨"slices.breakPatternsCmpFunc[pagemend/api.Entry]",by decide,by kernel_rfl⟩
 f23:=⟨"slices.choosePivotCmpFunc[pagemend/api.Entry]",by decide,by kernel_rfl⟩
 f24:=⟨"slices.reverseRangeCmpFunc[pagemend/api.Entry]",by decide,by kernel_rfl⟩
 f25:=⟨"slices.partialInsertionSortCmpFunc[pagemend/api.Entry]",by decide,by kernel_rfl⟩
 f26:=⟨"slices.partitionEqualCmpFunc[pagemend/api.Entry]",by decide,by kernel_rfl⟩
 f27:=⟨"slices.partitionCmpFunc[pagemend/api.Entry]",by decide,by kernel_rfl⟩
 f28:=by kernel_rfl
 f29:=by kernel_rfl
 f46:=⟨"slices.siftDownCmpFunc[pagemend/api.Entry]",by decide,by kernel_rfl⟩
 f47:=by kernel_rfl
 f48:=by kernel_rfl
 f49:=⟨"slices.medianAdjacentCmpFunc[pagemend/api.Entry]",by decide,by kernel_rfl⟩
 f50:=⟨"slices.medianCmpFunc[pagemend/api.Entry]",by decide,by kernel_rfl⟩
 f57:=⟨"slices.order2CmpFunc[pagemend/api.Entry]",by decide,by kernel_rfl⟩
 t0:=Tryz.underlying0
 a0:=Tryz.isAgg0
 z0:=Tryz.sizeOf0
 v0:=Tryz.zeroValue0
 t3:=Tryz.underlying3
 a3:=Tryz.isAgg3
 z3:=Tryz.sizeOf3
 v3:=Tryz.zeroValue3
 t4:=Tryz.underlying4
 a4:=Tryz.isAgg4
 z4:=Tryz.sizeOf4
 v4:=Tryz.zeroValue4
 t5:=Tryz.underlying5
 a5:=Tryz.isAgg5
 z5:=Tryz.sizeOf5
 v5:=Tryz.zeroValue5
 t9:=Tryz.underlying9
 a9:=Tryz.isAgg9
 z9:=Tryz.sizeOf9
 v9:=Tryz.zeroValue9
 t22:=Tryz.underlying26
 a22:=Tryz.isAgg26
 z22:=Tryz.sizeOf26
 v22:=Tryz.zeroValue26
 t25:=Tryz.underlying169
 a25:=Tryz.isAgg169
 z25:=Tryz.sizeOf169
 v25:=Tryz.zeroValue169
 t39:=Tryz.underlying178
 a39:=Tryz.isAgg178
 z39:=Tryz.sizeOf178
 v39:=Tryz.zeroValue178
 t45:=Tryz.underlying249
 a45:=Tryz.isAgg249
 z45:=Tryz.sizeOf249
 v45:=Tryz.zeroValue249
 t46:=Tryz.underlying250
 a46:=Tryz.isAgg250
 z46:=Tryz.sizeOf250
 v46:=Tryz.zeroValue250
 t50:=Tryz.underlying142
 a50:=Tryz.isAgg142
 z50:=Tryz.sizeOf142
 v50:=Tryz.zeroValue142
 t53:=Tryz.underlying197
 a53:=Tryz.isAgg197
 z53:=Tryz.sizeOf197
 v53:=Tryz.zeroValue197
 t55:=Tryz.underlying245
 a55:=Tryz.isAgg245
 z55:=Tryz.sizeOf245
 v55:=Tryz.zeroValue245
 t66:=Tryz.underlying275
 a66:=Tryz.isAgg275
 z66:=Tryz.sizeOf275
 v66:=Tryz.zeroValue275
 t70:=Tryz.underlying279
 a70:=Tryz.isAgg279
 z70:=Tryz.sizeOf279
 v70:=Tryz.zeroValue279
 t76:=Tryz.underlying305
 a76:=Tryz.isAgg305
 z76:=Tryz.sizeOf305
 v76:=Tryz.zeroValue305
 t77:=Tryz.underlying122
 a77:=Tryz.isAgg122
 z77:=Tryz.sizeOf122
 v77:=Tryz.zeroValue122
set_option maxHeartbeats 1000000 in
theorem Tryz.nan(x:Int)(W:World):Calls Tryz.prog 125 #[.int .i64 x] W λe w'=>e=.returned (.bool false)/\w'=W:=by
 go_enter Tryz.func125,Tryz.ntmps125
 go_wp2
 all_goals (go_ret;exact⟨by simp,rfl⟩)
set_option maxHeartbeats 2000000 in
theorem Tryz.cmpInt(x y:Int)(W:World):Calls Tryz.prog 74 #[.int .i64 x,.int .i64 y] W λe w'=>e=.returned (.int .i64 (Lib.compareInt x y))/\w'=W:=by
 go_enter Tryz.func74,Tryz.ntmps74
 go_wp2_with (go_at_call 125;refine(Tryz.nan _ _).mono ?_;rintro e w' ⟨rfl,rfl⟩)
 all_goals (go_ret;refine⟨?_,rfl⟩;unfold Lib.compareInt;simp_all;try (rw[if_neg (by omega),if_neg (by omega)]))
set_option maxHeartbeats 2000000 in
theorem Tryz.cmpOr(r o cap:Nat)(x y v:Int)(hv:(if x=0 then y else x)=v)(W:World)(h0:W.cell? ⟨r,o,none⟩=some (.int .i64 x))(h1:W.cell? ⟨r,o+1,none⟩=some (.int .i64 y)):
  Calls Tryz.prog 84 #[.slice (some ⟨r,o,none⟩) 2 cap] W λe w'=>e=.returned (.int .i64 v)/\w'=W:=by
 subst hv
 go_enter Tryz.func84,Tryz.ntmps84
 go_wp2
 by_cases g:x=0
 ·subst g;by_cases h:y=0
  ·subst h;refine wp_loop_rounds 3 ?_;rw[rounds_succ]
   go_wp2
   rw[rounds_succ]
   go_wp2
   rw[rounds_succ]
   go_wp2
   go_ret
   exact⟨rfl,rfl⟩
  ·refine wp_loop_rounds 2 ?_;rw[rounds_succ]
   go_wp2
   rw[rounds_succ]
   go_wp2
   go_ret
   exact⟨rfl,rfl⟩
 ·refine wp_loop_rounds 1 ?_;rw[rounds_succ]
  go_wp2
  go_ret
  exact⟨by simp[g],rfl⟩
def CSt(W:World)(x0 g y0 e:Int)(w':World):Prop:=w'.cell? ⟨W.heap.size,0,none⟩=some (.int .i64 x0)/\w'.cell? ⟨W.heap.size,6,none⟩=some (.int .i64 g)/\w'.cell? ⟨W.heap.size+1,0,none⟩=some (.int .i64 y0)/\w'.cell? ⟨W.heap.size+1,6,none⟩=some (.int .i64 e)/\ ∃n os,w'=grow (W.drewN n) os
theorem WE{w:World}{a:Addr}{v:Value}(h:w.cell? a=some v)(o:Obj):(w.alloc o).cell? a=some v:=by rw[<-h];exact World.cell?_of_block (Below.heap_alloc w o a.block (block_lt_of_cell h))
theorem CSt.alloc{W w:World}{x0 g y0 e:Int}(h:CSt W x0 g y0 e w)(o:Obj):CSt W x0 g y0 e (w.alloc o):=by obtain⟨h1,h2,q,j,n,os,k⟩:=h;exact⟨WE h1 o,WE h2 o,WE q o,WE j o,n,_,by rw[alloc_eq_grow,k,grow_grow]⟩
set_option maxRecDepth 100000 in
set_option maxHeartbeats 4000000 in
theorem Tryz.closS(x y:Am.ET)(W:World):Calls Tryz.prog 122 #[.agg (Am.enT x).toArray,.agg (Am.enT y).toArray] W λe w'=>e=.returned (.int .i64 (Am.Jmh x y))/\ ∃q K,w'=grow (W.drewN q) K:=by
 obtain⟨x0,X,x2,x3,x4,R,⟨k,_d,⟨S,P⟩,E,w⟩,C⟩:=x;obtain⟨r,_e,T,L,Q,N,⟨j,H,⟨M,_c⟩,z,F⟩,D⟩:=y;unfold Am.Jmh Am.enT;dsimp only;generalize hv:(if Lib.compareInt k j=0 then Lib.compareInt x0 r else Lib.compareInt k j)=v
 go_enter Tryz.func122,Tryz.ntmps122
 go_wp2
 have U: ∀o,o<13-> ∀(A B:Obj),((W.alloc A).alloc B).cell? ⟨W.heap.size,o,none⟩=(W.alloc A).cell? ⟨W.heap.size,o,none⟩:=λo _ A B=>World.cell?_of_block (Below.heap_alloc _ _ _ (by simp));obtain⟨h,g⟩: ∃h,h=(W.alloc (.cells #[.int .i64 x0,.int .i64 X,.int .i64 x2,.int .i64 x3,.int .i64 x4,.int .i64 R,.int .i64 k,.int .i64 _d,.bool S,.string ⟨P.toArray⟩,.bool E,.string ⟨w.toArray⟩,.string ⟨C.toArray⟩] 64)).alloc (.cells #[.int .i64 r,.int .i64 _e,.int .i64 T,.int .i64 L,.int .i64 Q,.int .i64 N,.int .i64 j,.int .i64 H,.bool M,.string ⟨_c.toArray⟩,.bool z,.string ⟨F.toArray⟩,.string ⟨D.toArray⟩] 64):=⟨_,rfl⟩;have c0:h.cell? ⟨W.heap.size,0,none⟩=some (.int .i64 x0):=by rw[g];simp
 have c6:h.cell? ⟨W.heap.size,6,none⟩=some (.int .i64 k):=by rw[g];simp
 have _b:h.cell? ⟨W.heap.size+1,0,none⟩=some (.int .i64 r):=by rw[g];simp
 have V:h.cell? ⟨W.heap.size+1,6,none⟩=some (.int .i64 j):=by rw[g];simp
 have G:h=grow W #[(.cells #[.int .i64 x0,.int .i64 X,.int .i64 x2,.int .i64 x3,.int .i64 x4,.int .i64 R,.int .i64 k,.int .i64 _d,.bool S,.string ⟨P.toArray⟩,.bool E,.string ⟨w.toArray⟩,.string ⟨C.toArray⟩] 64),(.cells #[.int .i64 r,.int .i64 _e,.int .i64 T,.int .i64 L,.int .i64 Q,.int .i64 N,.int .i64 j,.int .i64 H,.bool M,.string ⟨_c.toArray⟩,.bool z,.string ⟨F.toArray⟩,.string ⟨D.toArray⟩] 64)]:=by rw[g,alloc_eq_grow,alloc_eq_grow,grow_grow];rfl
 rw[<-g];clear g U;have _a:CSt W x0 k r j h.drew:=⟨c0,c6,_b,V,1,_,by rw[G];rfl⟩;clear G
 go_region_held3 (λw':World=>w'.cell? ⟨W.heap.size,0,none⟩=some (.int .i64 x0)/\w'.cell? ⟨W.heap.size,6,none⟩=some (.int .i64 k)/\w'.cell? ⟨W.heap.size+1,0,none⟩=some (.int .i64 r)/\w'.cell? ⟨W.heap.size+1,6,none⟩=some (.int .i64 j)/\ ∃n os,w'=grow (W.drewN n) os)
  (first|assumption|exact _a|exact CSt.alloc (by assumption) _)
  (first
   |(go_at_call 74;refine(Tryz.cmpInt _ _ _).mono ?_;rintro e w' ⟨rfl,rfl⟩)
   |(go_at_call 84;refine(Tryz.cmpOr _ _ _ (Lib.compareInt k j) (Lib.compareInt x0 r) v hv _ (by simp) (by simp)).mono ?_;rintro e w' ⟨rfl,rfl⟩))
 all_goals
  rename_i hh;obtain⟨_,_,_,_,n,os,hw⟩:=hh
  go_wp2
  go_ret
  exact⟨rfl,n,os,hw⟩
theorem Tryz.ltS{x y:Am.ET}(hx:Am.Ja8 x=true)(hy:Am.Ja8 y=true):ltOf Am.Jmh x y=decide (Am.J8J x<Am.J8J y):=by
 unfold Am.Ja8 at hx hy;unfold ltOf Am.Jmh Am.J8J Lib.compareInt;grind
theorem Tryz.swoS:SWO (ltOf Am.Jmh) where
 irrefl x:=by unfold ltOf Am.Jmh Lib.compareInt;grind
 trans x y z h1 h2:=by unfold ltOf Am.Jmh Lib.compareInt at*;grind
 ntrans x y z h1 h2:=by unfold ltOf Am.Jmh Lib.compareInt at*;grind
set_option maxHeartbeats 2000000 in
theorem Tryz.ins0(a:Option Addr)(cap:Nat)(g:Value)(w:World):Calls Tryz.prog 184 #[.slice a 0 cap,.int .i64 0,.int .i64 0,g] w λe w'=>e=.returned (.tuple #[])/\w'=w:=by
 go_enter Tryz.func184,Tryz.ntmps184
 go_wp2
 refine wp_loop_rounds 1 ?_;rw[rounds_succ]
 go_wp2
 go_end0
 exact⟨rfl,rfl⟩
set_option maxHeartbeats 2000000 in
theorem Tryz.pdq0(a:Option Addr)(cap:Nat)(g:Int)(h:Value)(w:World):Calls Tryz.prog 155 #[.slice a 0 cap,.int .i64 0,.int .i64 0,.int .i64 g,h] w λe w'=>e=.returned (.tuple #[])/\w'=w:=by
 go_enter Tryz.func155,Tryz.ntmps155
 go_wp2
 refine wp_loop_rounds 1 ?_;rw[rounds_succ]
 go_wp2_with (go_at_call 184;refine(Tryz.ins0 _ _ _ _).mono ?_;rintro e w' ⟨rfl,rfl⟩)
 (try simp only[Exit.inBlock,Exit.then]);refine bodyPost_ret (results_none rfl _ _ _) rfl ?_
 exact⟨rfl,rfl⟩
set_option maxHeartbeats 2000000 in
theorem Tryz.sort0(a:Option Addr)(cap:Nat)(h:Value)(w:World):Calls Tryz.prog 121 #[.slice a 0 cap,h] w λe w'=>e=.returned (.tuple #[])/\w'=w:=by
 have g:=Any.bits_Len (SlLaysF0.n15.bits (P:=Tryz.prog) (ρ:=Tryz.ρS) {Tryz.laysSort with}) 0 w (by omega) (by omega);change Calls Tryz.prog 156 _ _ _ at g
 go_enter Tryz.func121,Tryz.ntmps121
 go_wp2_with (first|(go_at_call 156;refine g.mono ?_;rintro e w' ⟨rfl,rfl⟩)|(go_at_call 155;refine(Tryz.pdq0 _ _ _ _ _).mono ?_;rintro e w' ⟨rfl,rfl⟩))
 go_end0
 exact⟨rfl,rfl⟩
theorem Ja0(args:List Am.AV)(_q:List Am._x)(r:Am.Res)(h:Am.JpK 13 122 (Am.Jk2 Am.J3 Am.Ja8) (Am._B Am.J3) Am.J8J args _q=some r):Am.J6J Tryz.prog 121 args _q r:=by
 have D: ∀args w,(callFunc 122 args).run Tryz.prog w=.ok (.enter 122 args) w:=enters_of Tryz.func122 (by kernel_rfl) rfl;refine Am.JNA (α:=Am.ET) (enc:=Am.enT) (N:=λx=>Am.Ja8 x=true) ⟨_,Tryz.func121,by decide,by decide⟩ (by decide) (λrow x h=>(Am.Jy4 h).1) (λrow x h=>(Am.Jy4 h).2) (λx=>rfl) (λx=>rfl)
  (λa cap w=>Tryz.sort0 a cap _ w)
  (λblk cap d w F E hb hs=>?_) args _q r h
 refine(AnyQ.slices_SortFunc Tryz.laysSort 13 Tryz.isAgg64 Tryz.sizeOf64 Am.enT (λ_=>rfl) (λx v C=>by simp[Am.enT]at C;rcases C with rfl|rfl|rfl|rfl|rfl|rfl|rfl|rfl|rfl|rfl|rfl|rfl|rfl<;>rfl) Am.Jmh Tryz.swoS 122 #[] blk 0 cap d w D (λ_ _ _ _ x y=>Tryz.closS x y _) E hb hs).mono ?_;rintro e w' ⟨h1,g,n,os,k,o,H⟩;refine⟨h1,g,n,os,k,?_,H⟩;have B: ∀i,i<d.size->Am.Ja8 g[i]! =true:=λi hi=>by
  have hs:=k.1;have h2:g[i]! ∈(g.extract 0 d.size).toList:=by rw[show d.size=g.size from hs.symm,Array.extract_size,getElem!_pos g i (by omega)];exact Array.mem_toList_iff.2 (Array.getElem_mem _)
  have A:=k.2.2.mem_iff.1 h2;rw[Array.extract_size]at A;exact F _ (Array.mem_toList_iff.1 A)
 intro i j G _e z;have q:=o i j G _e z;rw[Tryz.ltS (B j z) (B i (by omega))]at q;exact q
end Go.Proofs
end
