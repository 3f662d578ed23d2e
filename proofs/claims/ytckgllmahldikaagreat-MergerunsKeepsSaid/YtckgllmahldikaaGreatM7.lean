/-
  Parts of a proof.
-/
import Derived.Shelf.Strings.Builder1
import Derived.Shelf.Lays
import Derived.Test.YtckgllmahldikaaGreatProg
import Derived.Lib.Agree
import Derived.KernelRfl
import Derived.WalkKit
import Derived.BigCall
import Derived.Test.YtckgllmahldikaaGreatM2
import Derived.Test.YtckgllmahldikaaGreatM3
import Derived.Test.YtckgllmahldikaaGreatM4
import Derived.Test.YtckgllmahldikaaGreatM6
set_option linter.unusedSimpArgs false
set_option linter.unusedVariables false
set_option linter.unusedSectionVars false
set_option maxRecDepth 20000
set_option maxHeartbeats 4000000
section
namespace Go.Am
noncomputable section
theorem PP{i g S l f}(hf: ∀p,uA p i=some (.fn (aN f)))(A:AE l)(q: ∀x,onO (iP g x) (λy=>nB (TG.of l) f y.1 y.2 (iT g))=S x):AE (cR i g S::l):=λp=>⟨ux (hf p) (A p) q,A p⟩
abbrev Eg:=aG 217 oy DC::aG 218 Gb JK::aG 151 Yq rR::aG 94 Jmn zL::aG 122 D2 DB::aG 84 Br tG::aG 74 JnI pV::aG 125 oy IK::aG 93 G2 IW::aG 10 JGg vK::[]
theorem Y3:AE Eg:=by
 iterate 10 refine dJ (λ_=>rfl) ?_ λ_=>by kernel_rfl
 exact ae0
abbrev Gm:=cR 117 Jou IN::cR 115 pz IR::aG 153 IP JI::aG 113 IP pT::aG 152 Vp Su::aG 183 ZM DN::aG 182 IP mS::aG 179 IP jA::aG 180 ZM yV::aG 181 ZM vV::Eg
theorem JoG:AE Gm:=by
 iterate 2 refine PP (λ_=>rfl) ?_ λ_=>by kernel_rfl
 iterate 8 refine dJ (λ_=>rfl) ?_ λ_=>by kernel_rfl
 exact Y3
abbrev Ci:=aG 92 pz iL::Gm
theorem Bq:AE Ci:=by
 refine dJ (λ_=>rfl) ?_ λ_=>by kernel_rfl
 exact JoG
abbrev Dv:=aG 195 ZM iY::aG 225 Gb JK::aG 158 Wv kO::aG 163 Ep mR::aG 149 Aq mN::aG 198 Al JO::aG 60 Xm vT::aG 111 D2 lU::aG 9 V8 QB::aG 44 JnE ft::Ci
theorem Sa:AE Dv:=by
 iterate 10 refine dJ (λ_=>rfl) ?_ λ_=>by kernel_rfl
 exact Bq
abbrev D8:=aG 164 Xw JG::aG 107 pz fG::aG 134 Jqk pU::aG 68 IP JI::aG 165 Dc tD::aG 200 Gr wC::aG 199 G0 JD::aG 201 Gx tO::aG 123 IP JF::aG 157 R8 nW::Dv
theorem Y6:AE D8:=by
 iterate 10 refine dJ (λ_=>rfl) ?_ λ_=>by kernel_rfl
 exact Sa
abbrev fi:=aG 21 Zt zJ::aG 36 nm m8::aG 56 Uy IE::aG 106 Fc QR::aG 33 Co zE::aG 79 X1 DA::aG 91 Yo YU::aG 136 Gf jR::aG 88 Cn iX::aG 135 D4 rS::D8
theorem Eo:AE fi:=by
 iterate 10 refine dJ (λ_=>rfl) ?_ λ_=>by kernel_rfl
 exact Y6
theorem JnN(r x):onO (iP g_draw_Codes_Next x) (λy=>nB (TG.of (aG 25 g_draw_Codes_Next r::fi)) pk y.1 y.2 (iT g_draw_Codes_Next))=IU r x:=by kernel_rfl
abbrev F9:=aG 25 g_draw_Codes_Next Jj::fi
theorem JnT:AE F9:=λp=>⟨gj (fn:=pk) (l:=fi) rfl (Eo p) rfl JnN 100,Eo p⟩
abbrev Ei:=aG 58 De jQ::aG 109 B5 rJ::aG 110 Dg mT::aG 150 Bh sV::aG 108 Ck lS::aG 148 Aw JB::aG 69 Wg eU::aG 70 B1 pN::aG 31 JEv XG::aG 24 Tk YJ::F9
theorem Yd:AE Ei:=by
 iterate 10 refine dJ (λ_=>rfl) ?_ λ_=>by kernel_rfl
 exact JnT
abbrev Gc:=aG 169 JnC fr::aG 215 JkT RA::aG 14 JoS iN::aG 133 Jnx IT::aG 12 X5 ZL::aG 19 Bo CY::aG 16 Bn XL::aG 57 Um XZ::aG 42 JD0 PW::aG 90 Rn HP::Ei
theorem JnH:AE Gc:=by
 iterate 10 refine dJ (λ_=>rfl) ?_ λ_=>by kernel_rfl
 exact Yd
abbrev Cj:=aG 47 B1 yU::aG 46 Th tH::aG 137 JDX HA::aG 166 JDo HM::aG 203 JDF OJ::aG 202 JEc OK::aG 204 JDG JDl::aG 167 JDx HC::aG 205 X9 YS::aG 139 Jin fw::Gc
theorem JD2:AE Cj:=by
 iterate 10 refine dJ (λ_=>rfl) ?_ λ_=>by kernel_rfl
 exact JnH
abbrev C4:=aG 345 JBb sU::aG 344 pm CJ::aG 343 Vf IA::aG 328 pm vZ::aG 260 Sz DJ::aG 242 C6 QI::aG 273 Be mM::aG 272 U5 jN::aG 317 Tf rK::aG 214 Dm Ju::Cj
theorem Q8:AE C4:=by
 iterate 10 refine dJ (λ_=>rfl) ?_ λ_=>by kernel_rfl
 exact JD2
abbrev D0:=aG 236 Cf JJ::aG 259 Cf vL::aG 304 JlN wA::aG 303 S3 nY::aG 346 oy HB::aG 248 Sm eZ::aG 280 n3 pS::aG 330 n3 rP::aG 331 n3 rM::aG 302 Vi mO::C4
theorem Vk:AE D0:=by
 iterate 10 refine dJ (λ_=>rfl) ?_ λ_=>by kernel_rfl
 exact Q8
abbrev Fl:=aG 338 Y9 tE::aG 337 JDm rL::aG 336 Wq IG::aG 292 Be hQ::aG 296 JD7 sX::aG 339 JDW XH::aG 294 JDO gG::aG 293 Y2 oH::aG 206 Cz IF::aG 228 C8 HY::D0
theorem Xn:AE Fl:=by
 iterate 10 refine dJ (λ_=>rfl) ?_ λ_=>by kernel_rfl
 exact Vk
abbrev Dq:=aG 289 S9 QG::aG 290 Wt YW::aG 335 Z8 QP::aG 291 Y5 ZF::aG 255 JDq iM::aG 263 B7 yT::aG 246 JEk rI::aG 231 B9 lR::aG 249 B9 mL::aG 295 Ru gJ::Fl
theorem T3:AE Dq:=by
 iterate 10 refine dJ (λ_=>rfl) ?_ λ_=>by kernel_rfl
 exact Xn
abbrev Er:=aG 250 Wz II::aG 282 Db DE::aG 281 T2 rO::aG 230 V5 DF::aG 247 Ul pR::aG 210 Cz IS::aG 233 C8 HQ::aG 253 JIj WS::aG 288 S8 QC::aG 254 Ys ZB::Dq
theorem Wx:AE Er:=by
 iterate 10 refine dJ (λ_=>rfl) ?_ λ_=>by kernel_rfl
 exact T3
abbrev Do:=aG 287 U2 YH::aG 334 JEg nU::aG 251 U8 YL::aG 286 pc oC::aG 283 Xy tC::aG 332 Uf vM::aG 366 Ui vN::aG 285 Wd oA::aG 333 pc QU::aG 284 Q7 PY::Er
theorem Sy:AE Do:=by
 iterate 10 refine dJ (λ_=>rfl) ?_ λ_=>by kernel_rfl
 exact Wx
abbrev Cx:=aG 270 JB3 sW::aG 268 Jqx oI::aG 269 Fh DR::aG 310 W9 yY::aG 354 B4 XK::aG 353 R4 XP::aG 311 Rm CV::aG 209 nv IC::aG 232 S1 tA::aG 252 Z3 vQ::Do
theorem JCI:AE Cx:=by
 iterate 10 refine dJ (λ_=>rfl) ?_ λ_=>by kernel_rfl
 exact Sy
abbrev Fp:=aG 267 Xj QQ::aG 239 Bi iW::aG 271 JCt jO::aG 315 Zm vU::aG 356 JHH CF::aG 314 JDU yS::aG 355 X6 ZD::aG 316 JAO OR::aG 312 JrU eg::aG 313 Sj zC::Cx
theorem Zq:AE Fp:=by
 iterate 10 refine dJ (λ_=>rfl) ?_ λ_=>by kernel_rfl
 exact JCI
abbrev Fa:=aG 266 Xg vX::aG 309 JEs CH::aG 264 Tz DL::aG 307 Jph DQ::aG 350 JE8 OI::aG 349 Xs YV::aG 370 Vm YK::aG 262 JBI XR::aG 306 Az XE::aG 238 JAy XT::Fp
theorem Y1:AE Fa:=by
 iterate 10 refine dJ (λ_=>rfl) ?_ λ_=>by kernel_rfl
 exact Zq
abbrev C2:=aG 261 JCh CO::aG 305 JC8 CQ::aG 347 X4 ZJ::aG 348 JCE XU::aG 265 JBh CN::aG 308 JC6 CW::aG 351 Wh XY::aG 371 Rz XV::aG 374 S2 nq::aG 352 Tj DM::Fa
theorem JBm:AE C2:=by
 iterate 10 refine dJ (λ_=>rfl) ?_ λ_=>by kernel_rfl
 exact Y1
abbrev fh:=aG 363 Jqq eu::aG 324 JpI ei::aG 361 Sx QD::aG 244 JrW fc::aG 278 A2 HK::aG 329 pc oC::aG 277 Jq0 DU::aG 211 Dm vW::aG 213 JAG HR::aG 237 nv nX::C2
theorem D7:AE fh:=by
 iterate 10 refine dJ (λ_=>rfl) ?_ λ_=>by kernel_rfl
 exact JBm
theorem Xe(r x):onO (iP g_ref09_closed x) (λy=>nB (TG.of (aG 364 g_ref09_closed r::fh)) n9 y.1 y.2 (iT g_ref09_closed))=HW r x:=by kernel_rfl
abbrev Fm:=aG 364 g_ref09_closed D1::fh
theorem Wj:AE Fm:=λp=>⟨gj (fn:=n9) (l:=fh) rfl (D7 p) rfl Xe 1100,D7 p⟩
abbrev D9:=aG 358 Fh ZI::aG 319 Bi vS::aG 325 Du vY::aG 362 JDp XD::aG 327 B7 WZ::aG 365 Br YC::aG 321 C6 OQ::aG 322 JAa OP::aG 360 Zc yW::aG 326 A2 YP::Fm
theorem Y8:AE D9:=by
 iterate 10 refine dJ (λ_=>rfl) ?_ λ_=>by kernel_rfl
 exact Wj
abbrev Cv:=aG 279 JAH oB::aG 243 zn GY::aG 276 nv tK::aG 275 Zz vR::aG 274 Du vJ::aG 318 JqY vP::aG 357 Yt IH::aG 323 JCD PX::aG 320 Un tI::aG 359 Zu ef::D9
theorem JBi:AE Cv:=by
 iterate 10 refine dJ (λ_=>rfl) ?_ λ_=>by kernel_rfl
 exact Y8
abbrev Cc:=aG 373 pm CJ::aG 299 JA7 XI::aG 234 Vd YN::aG 257 Vh DG::aG 297 Db XN::aG 298 Vy QF::aG 256 JCY XM::aG 208 vu KB::aG 229 zn GZ::aG 245 Re HO::Cv
theorem Q9:AE Cc:=by
 iterate 10 refine dJ (λ_=>rfl) ?_ λ_=>by kernel_rfl
 exact JBi
abbrev Dy:=aG 368 Td vO::aG 340 Cm YD::aG 367 Wm ZA::aG 372 Xq YX::aG 375 Xc ZN::aG 378 Jl0 QY::aG 377 JiW tN::aG 376 Yc YZ::aG 342 U7 YF::aG 369 B4 XS::Cc
theorem Vu:AE Dy:=by
 iterate 10 refine dJ (λ_=>rfl) ?_ λ_=>by kernel_rfl
 exact Q9
abbrev G1:=aG 95 JjU KC::aG 138 JDc HG::aG 168 vu IV::aG 207 JiG tM::aG 212 vu IX::aG 235 Bu PZ::aG 258 Bu CT::aG 301 Uv HZ::aG 300 Cm em::aG 341 JAZ XO::Dy
theorem Jjl:AE G1:=by
 iterate 10 refine dJ (λ_=>rfl) ?_ λ_=>by kernel_rfl
 exact Vu
abbrev Gv:=aG 83 JlW DV::aG 50 Jjh fv::aG 55 Az fx::aG 105 Ji4 vz::aG 32 Co QV::aG 11 JGU CD::aG 45 JkS IZ::G1
theorem Jmo:AE Gv:=by
 iterate 7 refine dJ (λ_=>rfl) ?_ λ_=>by kernel_rfl
 exact Jjl
abbrev Qz:=aG 128 JaY Q1::Gv
theorem Jb5:AE Qz:=λp=>⟨Px rfl,Jmo p⟩
abbrev F3:=aG 140 Ep QT::aG 146 Aq HL::aG 178 Jlz fm::aG 170 Al CG::aG 77 Gf fp::aG 66 Cn fb::aG 85 Fc DO::aG 127 J88 ga::cR 114 J8f wk::aG 129 JkX RE::Qz
theorem Z9:AE F3:=by
 iterate 8 refine dJ (λ_=>rfl) ?_ λ_=>by kernel_rfl
 refine PP (λ_=>rfl) ?_ λ_=>by kernel_rfl
 refine dJ (λ_=>rfl) ?_ λ_=>by kernel_rfl
 exact Jb5
abbrev Ga:=aG 71 JnG fq::aG 98 D4 QL::aG 141 JqO IJ::aG 172 Jmk wB::aG 171 Qw vp::aG 216 Qw wb::aG 142 Dc ZH::aG 174 Gr RD::aG 175 Gx QZ::aG 173 G0 oJ::F3
theorem JnL:AE Ga:=by
 iterate 10 refine dJ (λ_=>rfl) ?_ λ_=>by kernel_rfl
 exact Z9
abbrev f0:=cR 197 g_slices_swapRangeCmpFunc_archiver_named__0 J8B::cR 227 g_slices_swapRangeCmpFunc_archiver_named__0 J7F::cR 161 J6J J6I::Ga
theorem Q4:AE f0:=by
 iterate 3 refine PP (λ_=>rfl) ?_ λ_=>by kernel_rfl
 exact JnL
theorem J7T(r x):onO (iP g_slices_swapRangeCmpFunc_archiver_named__0 x) (λy=>nB (TG.of (cR 162 g_slices_swapRangeCmpFunc_archiver_named__0 r::f0)) we y.1 y.2 (iT g_slices_swapRangeCmpFunc_archiver_named__0))=Q2 r x:=by kernel_rfl
abbrev Q3:=cR 162 g_slices_swapRangeCmpFunc_archiver_named__0 J89::f0
theorem J7Z:AE Q3:=λp=>⟨Mr (fn:=we) (l:=f0) rfl (Q4 p) J7T 100,Q4 p⟩
abbrev Ge:=aG 49 nm QW::cR 96 J8V wg::aG 97 Jje vq::aG 99 G2 HJ::aG 143 Q0 KF::aG 35 nm QO::cR 82 J56 wn::cR 126 J8j J8M::Q3
theorem JnU:AE Ge:=by
 refine dJ (λ_=>rfl) ?_ λ_=>by kernel_rfl
 refine PP (λ_=>rfl) ?_ λ_=>by kernel_rfl
 iterate 4 refine dJ (λ_=>rfl) ?_ λ_=>by kernel_rfl
 iterate 2 refine PP (λ_=>rfl) ?_ λ_=>by kernel_rfl
 exact J7Z
abbrev Bc:=aG 145 Aw fH::Ge
theorem JE5:AE Bc:=λp=>⟨JNG rfl,JnU p⟩
abbrev Bk:=aG 102 B5 yR::Bc
theorem As:AE Bk:=by
 refine dJ (λ_=>rfl) ?_ λ_=>by kernel_rfl
 exact JE5
abbrev Dj:=aG 101 Ck mP::Bk
theorem Cu:AE Dj:=by
 refine dJ (λ_=>rfl) ?_ λ_=>by kernel_rfl
 exact As
abbrev Ex:=aG 103 Dg oG::aG 147 Bh OF::Dj
theorem Ds:AE Ex:=by
 iterate 2 refine dJ (λ_=>rfl) ?_ λ_=>by kernel_rfl
 exact Cu
noncomputable def AW:PS:=λf=>if f=51 then some (zW cY DD)else none
theorem U0:uA AW 51=some (.prim (zW cY DD)):=rfl
def AD(l:List TE):Prop:=uB (AF (uA AW)) l
theorem It{i g S l f}(hf:uA AW i=some (.fn (aN f)))(A:AD l)(q: ∀x,onO (iP g x) (λy=>nB (TG.of l) f y.1 y.2 (iT g))=S x)(hs:FU g=true:=by rfl):AD (aG i g S::l):=⟨tu hf A hs q,A⟩
theorem JSp{i g S l f}(hf:uA AW i=some (.fn (aN f)))(A:AD l)(q: ∀x,onO (iP g x) (λy=>nB (TG.of l) f y.1 y.2 (iT g))=S x):AD (cR i g S::l):=⟨ux hf A q,A⟩
abbrev Dw:=aG 51 De DD::Ex
theorem Sb:AD Dw:=⟨JP8 U0,Ds AW⟩
abbrev Qy:=aG 53 JbR Qx::Dw
theorem JbP:AD Qy:=⟨Px rfl,Sb⟩
abbrev Jgk:=aG 4 JhQ RF::aG 20 Q0 QX::aG 18 Bo ff::aG 15 Bn IQ::aG 52 J8y fy::cR 96 J8U wh::aG 54 Jl2 RC::Qy
theorem Ji0:AD Jgk:=by
 iterate 5 refine It rfl ?_ λ_=>by kernel_rfl
 refine JSp rfl ?_ λ_=>by kernel_rfl
 refine It rfl ?_ λ_=>by kernel_rfl
 exact JbP
end
end Go.Am
end
section
namespace Go.Proofs
open Go.Shelf Go.RowKit
def Tryz.ρA:Ren where
 f:=fun
  |99=>171
  |166=>100
  |169=>104
  |206=>216
  |240=>144
  |276=>176
  |167=>177
  |n=>n
 t:=fun
  |9=>9
  |3=>3
  |4=>4
  |20=>20
  |0=>0
  |46=>178
  |5=>5
  |72=>160
  |76=>163
  |51=>197
  |53=>245
  |70=>158
  |37=>22
  |75=>162
  |127=>202
  |164=>242
  |80=>167
  |n=>n
 g:=λn=>n
theorem Tryz.laysWS:Lays.n166 Tryz.prog Tryz.ρA where
 mixed:=by kernel_rfl
 f166:=by kernel_rfl
 f240:=by kernel_rfl
 f276:=by kernel_rfl
 t0:=Tryz.underlying0
 a0:=Tryz.isAgg0
 z0:=Tryz.sizeOf0
 v0:=Tryz.zeroValue0
 t3:=Tryz.underlying3
 a3:=Tryz.isAgg3
 z3:=Tryz.sizeOf3
 v3:=Tryz.zeroValue3
 t4:=Tryz.underlying4
 a4:=Tryz.isAgg4
 z4:=Tryz.sizeOf4
 v4:=Tryz.zeroValue4
 t9:=Tryz.underlying9
 a9:=Tryz.isAgg9
 z9:=Tryz.sizeOf9
 v9:=Tryz.zeroValue9
 t20:=Tryz.underlying20
 a20:=Tryz.isAgg20
 z20:=Tryz.sizeOf20
 v20:=Tryz.zeroValue20
 t37:=Tryz.underlying22
 a37:=Tryz.isAgg22
 z37:=Tryz.sizeOf22
 v37:=Tryz.zeroValue22
 t70:=Tryz.underlying158
 a70:=Tryz.isAgg158
 z70:=Tryz.sizeOf158
 v70:=Tryz.zeroValue158
 t72:=Tryz.underlying160
 a72:=Tryz.isAgg160
 z72:=Tryz.sizeOf160
 v72:=Tryz.zeroValue160
 t75:=Tryz.underlying162
 a75:=Tryz.isAgg162
 z75:=Tryz.sizeOf162
 v75:=Tryz.zeroValue162
 t164:=Tryz.underlying242
 a164:=Tryz.isAgg242
 z164:=Tryz.sizeOf242
 v164:=Tryz.zeroValue242
theorem Tryz.laysST:Lays.n169 Tryz.prog Tryz.ρA where
 mixed:=by kernel_rfl
 f169:=by kernel_rfl
 t0:=Tryz.underlying0
 a0:=Tryz.isAgg0
 z0:=Tryz.sizeOf0
 v0:=Tryz.zeroValue0
 t3:=Tryz.underlying3
 a3:=Tryz.isAgg3
 z3:=Tryz.sizeOf3
 v3:=Tryz.zeroValue3
 t9:=Tryz.underlying9
 a9:=Tryz.isAgg9
 z9:=Tryz.sizeOf9
 v9:=Tryz.zeroValue9
 t37:=Tryz.underlying22
 a37:=Tryz.isAgg22
 z37:=Tryz.sizeOf22
 v37:=Tryz.zeroValue22
 t70:=Tryz.underlying158
 a70:=Tryz.isAgg158
 z70:=Tryz.sizeOf158
 v70:=Tryz.zeroValue158
 t72:=Tryz.underlying160
 a72:=Tryz.isAgg160
 z72:=Tryz.sizeOf160
 v72:=Tryz.zeroValue160
 t127:=Tryz.underlying202
 a127:=Tryz.isAgg202
 z127:=Tryz.sizeOf202
 v127:=Tryz.zeroValue202
theorem Tryz.laysWB:Lays.n167 Tryz.prog Tryz.ρA where
 mixed:=by kernel_rfl
 f167:=by kernel_rfl
 f240:=by kernel_rfl
 f276:=by kernel_rfl
 t0:=Tryz.underlying0
 a0:=Tryz.isAgg0
 z0:=Tryz.sizeOf0
 v0:=Tryz.zeroValue0
 t4:=Tryz.underlying4
 a4:=Tryz.isAgg4
 z4:=Tryz.sizeOf4
 v4:=Tryz.zeroValue4
 t5:=Tryz.underlying5
 a5:=Tryz.isAgg5
 z5:=Tryz.sizeOf5
 v5:=Tryz.zeroValue5
 t9:=Tryz.underlying9
 a9:=Tryz.isAgg9
 z9:=Tryz.sizeOf9
 v9:=Tryz.zeroValue9
 t20:=Tryz.underlying20
 a20:=Tryz.isAgg20
 z20:=Tryz.sizeOf20
 v20:=Tryz.zeroValue20
 t37:=Tryz.underlying22
 a37:=Tryz.isAgg22
 z37:=Tryz.sizeOf22
 v37:=Tryz.zeroValue22
 t70:=Tryz.underlying158
 a70:=Tryz.isAgg158
 z70:=Tryz.sizeOf158
 v70:=Tryz.zeroValue158
 t72:=Tryz.underlying160
 a72:=Tryz.isAgg160
 z72:=Tryz.sizeOf160
 v72:=Tryz.zeroValue160
 t75:=Tryz.underlying162
 a75:=Tryz.isAgg162
 z75:=Tryz.sizeOf162
 v75:=Tryz.zeroValue162
 t164:=Tryz.underlying242
 a164:=Tryz.isAgg242
 z164:=Tryz.sizeOf242
 v164:=Tryz.zeroValue242
theorem Tryz.extraRep:Builder.Extra Tryz.prog Tryz.ρA where
 sizeBuilder:=by kernel_rfl
 liesBuilder:=by kernel_rfl
 t5:=Tryz.underlying5
 a5:=Tryz.isAgg5
 z5:=Tryz.sizeOf5
 v5:=Tryz.zeroValue5
 infoByte:=by kernel_rfl
 cellsByte:=by kernel_rfl
 sizeByte:=by kernel_rfl
 neB5:=by decide
theorem Tryz.WriteByte(B b:Nat)(bs:List Value)(c:Int)(w:World)(h:Lib.IsBuilder 160 5 B b bs w)(hlen:bs.length+1<=140737488355328)(g:B<=w.heap.size):
  Calls Tryz.prog 177 #[.pointer (some ⟨b,0,none⟩),.int .u8 c] w λe w'=>e=.returned .nilIface/\(Lib.BuilderAt 160 5 B b (.pointer (some ⟨b,0,none⟩)) (bs++[.int .u8 c]) w'/\Below B w w'):=
 Any.Builder_WriteByte Tryz.laysWB Tryz.extraRep B b bs c w h hlen g
theorem Tryz.WriteString(B b:Nat)(bs:List Value)(s:ByteArray)(w:World)(h:Lib.IsBuilder 160 5 B b bs w)(hlen:bs.length+s.size<=140737488355328)(g:B<=w.heap.size):
  Calls Tryz.prog 100 #[.pointer (some ⟨b,0,none⟩),.string s] w λe w'=>e=.returned (.tuple #[.int .i64 s.size,.nilIface])/\(Lib.BuilderAt 160 5 B b (.pointer (some ⟨b,0,none⟩)) (bs++Lib.strCells s) w'/\Below B w w'):=
 Any.Builder_WriteString Tryz.laysWS Tryz.extraRep B b bs s w h hlen g
theorem Tryz.String(B b:Nat)(l:List UInt8)(w:World)(h:Lib.IsBuilder 160 5 B b (Lib.byteCells l) w)(g:B<=w.heap.size):
  Calls Tryz.prog 104 #[.pointer (some ⟨b,0,none⟩)] w λe w'=>e=.returned (.string ⟨l.toArray⟩)/\Below B w w':=
 Any.Builder_String_any Tryz.laysST Tryz.extraRep B b l w h g
theorem Xh(l:List UInt8)(n:Int)(k:Nat):Lib.byteCells (l++Am.J1y n k)++[.int .u8 (Am.J6z n k)]=Lib.byteCells (l++Am.J1y n (k+1)):=by
 rw[Am.Jvo,<-List.append_assoc,Lib.byteCells_append (l++Am.J1y n k)]
 congr 1
 show [Value.int .u8 _]=[Value.int .u8 ((UInt8.ofNat (Am.J6z n k).toNat).toNat:Int)];rw[Am.Jry]
set_option maxHeartbeats 6400000 in
set_option maxRecDepth 100000 in
theorem Tryz.put(s:ByteArray)(n:Int)(k:Nat)(hk:1<=k)(B:k<=8)(hs:s.size+8<=140737488355328)(w:World):
  Calls Tryz.prog 145 #[.string s,.int .i64 n,.int .i64 k] w λe w'=>e=.returned (.string ⟨(s.data.toList++Am.J1y n k).toArray⟩)/\Below w.heap.size w w':=by
 have C:s.data.toList.length=s.size:=(Lib.size_eq s).symm;have r:Lib.IsBuilder 160 5 w.heap.size w.heap.size [] (w.alloc (.cells #[.pointer none,.slice none 0 0] 160)):=Lib.fresh_isBuilder 160 5 w;have g:Below w.heap.size w (w.alloc (.cells #[.pointer none,.slice none 0 0] 160)):=(Below.refl _ w).alloc (Nat.le_refl _) _
 go_enter Tryz.func145,Tryz.ntmps145
 go_wp2_with (go_at_call 100;refine(Tryz.WriteString w.heap.size w.heap.size [] s _ r (by simp;omega) g.size).mono ?_)
 rintro e x ⟨rfl,h1,b1⟩;have o:Lib.IsBuilder 160 5 w.heap.size w.heap.size (Lib.byteCells (s.data.toList++Am.J1y n 0)) x:=by rw[List.nil_append,Lib.strCells_eq]at h1;have v:Am.J1y n 0=[]:=rfl;rw[v,List.append_nil];exact Or.inr h1
 have q:=g.trans b1;clear h1 b1 r g
 go_wp2
 go_loopw [19] (λi wr=> ∃j:Nat,j<=k/\i=.int .i64 j/\Lib.IsBuilder 160 5 w.heap.size w.heap.size (Lib.byteCells (s.data.toList++Am.J1y n j)) wr/\Below w.heap.size w wr)
  (λi _=>k-(intOf i).toNat)
 case atStart=>exact⟨0,Nat.zero_le _,rfl,o,q⟩
 case round=>
  obtain⟨j,D,rfl,h,hb⟩:=hrel;by_cases A:j<k
  ·go_wp2_with (go_at_call 177;refine(Tryz.WriteByte w.heap.size w.heap.size _ _ _ h (by rw[Lib.byteCells_length,List.length_append,Am.J0s];omega) hb.size).mono ?_;rintro e y ⟨rfl,h2,b2⟩)
   have z:Am.J6z n j=IntKind.u64.wrap n/2^(8*j)%256:=by show((IntKind.wrap .u64 n).fdiv (2^(8*j)))%256=_;rw[Int.fdiv_eq_ediv_of_nonneg _ (Int.le_of_lt (Int.pow_pos (by decide)))]
   rw[<-z,Xh]at h2;exact⟨⟨j+1,by omega,by simp,Or.inr h2,hb.trans b2⟩,by simp[intOf];omega⟩
  ·obtain rfl:j=k:=by omega
   go_wp2_with (go_at_call 104;refine(Tryz.String w.heap.size w.heap.size _ _ h hb.size).mono ?_;rintro e y ⟨rfl,b2⟩)
   go_wp2
   go_ret
   exact⟨rfl,hb.trans b2⟩
theorem Tryz.put_out(s:ByteArray)(n k:Int)(hk:k<1\/8<k)(w:World):
  Calls Tryz.prog 145 #[.string s,.int .i64 n,.int .i64 k] w λe w'=>e=.returned (.string s)/\Below w.heap.size w w':=by
 go_enter Tryz.func145,Tryz.ntmps145
 go_wp2
 all_goals (go_ret;exact⟨rfl,Below.refl _ _⟩)
theorem JMZ(l:List UInt8):(⟨l.toArray⟩:ByteArray).data.toList=l:=rfl
theorem JBR(args:List Am.AV)(blks:List Am.Blk)(r:Am.Res)(h:Am.JGJ args blks=some r):Am.J7q Tryz.prog 145 args blks r:=by
 unfold Am.JGJ at h;split at h;rename_i bl l n k;obtain⟨x,e,rfl⟩:=Option.map_eq_some_iff.1 h;unfold Am.Joq at e;split at e;rename_i hc;injection e with e;subst e;exact Am.JG5 (xs:=[.s l,.i .i64 n,.i .i64 k]) (vs:=[.string ⟨l.toArray⟩,.int .i64 n,.int .i64 k]) (v:=.string ⟨l.toArray⟩) ⟨_,Tryz.func145,by decide,by decide⟩ rfl rfl λw=>Tryz.put_out _ n k hc w;rename_i hc;split at e;rename_i h2;injection e with e;subst e;refine Am.JG5 (xs:=[.s l,.i .i64 n,.i .i64 k]) (vs:=[.string ⟨l.toArray⟩,.int .i64 n,.int .i64 k]) (v:=.string ⟨(l++Am.J1y n k.toNat).toArray⟩) ⟨_,Tryz.func145,by decide,by decide⟩ rfl rfl λw=>?_;have g:=Tryz.put ⟨l.toArray⟩ n k.toNat (by omega) (by omega) (by rw[Lib.size_eq];exact h2) w;rw[JMZ,show((k.toNat:Nat):Int)=k by omega]at g;exact g;cases e;cases h
end Go.Proofs
end
