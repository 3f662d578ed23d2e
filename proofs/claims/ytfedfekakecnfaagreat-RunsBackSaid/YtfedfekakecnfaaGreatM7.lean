/-
  Parts of a proof.
-/
import Derived.Shelf.Strings.Builder1
import Derived.Shelf.Lays
import Derived.Test.YtfedfekakecnfaaGreatProg
import Derived.Lib.Agree
import Derived.KernelRfl
import Derived.WalkKit
import Derived.BigCall
import Derived.Test.YtfedfekakecnfaaGreatM2
import Derived.Test.YtfedfekakecnfaaGreatM3
import Derived.Test.YtfedfekakecnfaaGreatM4
import Derived.Test.YtfedfekakecnfaaGreatM6
set_option linter.unusedSimpArgs false
set_option linter.unusedVariables false
section
namespace Go.Am
set_option maxRecDepth 20000
set_option maxHeartbeats 4000000
noncomputable section
theorem JMG{i g S l f}(hf: ∀p,uS p i=some (.fn (aL f)))(A:AE l)(q: ∀x,onO (kE g x) (λy=>qR (TG.of l) f y.1 y.2 (kJ g))=S x):AE (lM i g S::l):=λp=>⟨JKT (hf p) (A p) q,A p⟩
theorem X7(r x):onO (kE g_draw_Codes_Next x) (λy=>qR (TG.of (aF 21 g_draw_Codes_Next r::[])) ly y.1 y.2 (kJ g_draw_Codes_Next))=EU r x:=by kernel_rfl
abbrev yb:=aF 21 g_draw_Codes_Next Jc::[]
theorem X3:AE yb:=λp=>⟨YK (fn:=ly) (l:=[]) rfl (ae0 p) rfl X7 100,ae0 p⟩
abbrev yd:=aF 109 Xo AJ::aF 108 W9 lI::aF 105 Xq hY::aF 106 Ik wO::aF 107 Tm tX::aF 126 Sg AC::aF 127 Yt AR::aF 88 Ue pY::aF 10 JBL rO::aF 15 Y7 yj::yb
theorem Xr:AE yd:=by
 iterate 10 refine AS (λ_=>rfl) ?_ λ_=>by kernel_rfl
 exact X3
abbrev uf:=aF 19 Mq iG::lM 53 Xp ER::lM 51 Ym ES::aF 90 Vm LZ::aF 30 S0 EH::aF 65 Li zN::aF 59 Ya tU::aF 93 Wu EN::aF 52 M2 nZ::aF 89 Qx Nf::yd
theorem sk:AE uf:=by
 refine AS (λ_=>rfl) ?_ λ_=>by kernel_rfl
 iterate 2 refine JMG (λ_=>rfl) ?_ λ_=>by kernel_rfl
 iterate 7 refine AS (λ_=>rfl) ?_ λ_=>by kernel_rfl
 exact Xr
abbrev so:=aF 72 Gg eU::uf
theorem F8:AE so:=λp=>⟨JIf rfl,sk p⟩
abbrev sn:=aF 39 Fg wK::so
theorem rp:AE sn:=by
 refine AS (λ_=>rfl) ?_ λ_=>by kernel_rfl
 exact F8
abbrev ve:=aF 38 Oa lG::aF 73 F5 DX::aF 103 Zf WU::sn
theorem uq:AE ve:=by
 iterate 3 refine AS (λ_=>rfl) ?_ λ_=>by kernel_rfl
 exact rp
abbrev wt:=aF 40 Tp mS::aF 74 Gu KQ::ve
theorem vn:AE wt:=by
 iterate 2 refine AS (λ_=>rfl) ?_ λ_=>by kernel_rfl
 exact uq
noncomputable def CH:PS:=λf=>if f=13 then some (xC dE qF)else none
theorem Ps:uS CH 13=some (.prim (xC dE qF)):=rfl
def AD(l:List TE):Prop:=uQ (AF (uS CH)) l
theorem eY{i g S l f}(hf:uS CH i=some (.fn (aL f)))(A:AD l)(q: ∀x,onO (kE g x) (λy=>qR (TG.of l) f y.1 y.2 (kJ g))=S x)(hs:CW g=true:=by rfl):AD (aF i g S::l):=⟨kg hf A hs q,A⟩
abbrev vj:=aF 13 On qF::wt
theorem Mw:AD vj:=⟨JJt Ps,vn CH⟩
abbrev tj:=aF 135 JA3 KV::aF 137 Fi G2::aF 123 Fv QX::aF 138 Tf VP::aF 100 Z3 XB::aF 125 Ye WR::aF 148 Y9 ME::aF 35 Xy JP::aF 70 Yj tV::aF 9 Ob LO::vj
theorem Fp:AD tj:=by
 iterate 10 refine eY rfl ?_ λ_=>by kernel_rfl
 exact Mw
abbrev v7:=aF 67 Qp dX::aF 68 Mn oA::aF 63 Rg Ju::aF 96 Mu mJ::aF 121 Qi hW::aF 134 X2 fQ::aF 97 Sb jD::aF 98 Gj QW::aF 122 Gz RG::aF 136 Fj KU::tj
theorem Rf:AD v7:=by
 iterate 10 refine eY rfl ?_ λ_=>by kernel_rfl
 exact Fp
abbrev vd:=aF 264 Ot EJ::aF 249 Xz tT::aF 181 Ni zW::aF 163 Nc LR::aF 194 I3 jY::aF 193 Px iH::aF 238 N0 qG::aF 147 Sa JB::aF 34 Hk wM::aF 33 N3 mK::v7
theorem My:AD vd:=by
 iterate 10 refine eY rfl ?_ λ_=>by kernel_rfl
 exact Rf
abbrev yl:=aF 225 Yn uB::aF 224 Nm mO::aF 267 E9 DO::aF 169 M8 eN::aF 201 Qm mR::aF 251 Wk qI::aF 252 Pj nY::aF 223 Qs kZ::aF 266 Kc rS::aF 265 Lk KZ::vd
theorem Yp:AD yl:=by
 iterate 10 refine eY rfl ?_ λ_=>by kernel_rfl
 exact My
abbrev tq:=aF 213 Le gP::aF 217 H0 rU::aF 260 Gk RH::aF 215 Gt fN::aF 214 Uw mT::aF 24 V7 JR::aF 139 Nx VZ::aF 151 Oj UK::aF 159 Pq JN::aF 180 O6 zQ::yl
theorem K7:AD tq:=by
 iterate 10 refine eY rfl ?_ λ_=>by kernel_rfl
 exact Yp
abbrev sw:=aF 75 Gf Jx::aF 176 Gx iI::aF 184 Ly wL::aF 167 JAc pT::aF 154 Hc jZ::aF 170 L1 kU::aF 216 Ll fP::aF 259 Uj sD::aF 258 G1 pU::aF 257 Ry EE::tq
theorem JA9:AD sw:=by
 iterate 10 refine eY rfl ?_ λ_=>by kernel_rfl
 exact K7
abbrev va:=aF 168 P7 rY::aF 143 Yu WV::aF 156 Me RQ::aF 174 JDJ QN::aF 209 Ns LJ::aF 175 T3 WC::aF 210 Nu LM::aF 211 R0 VS::aF 256 Vw LX::aF 212 Ug VG::sw
theorem Oo:AD va:=by
 iterate 10 refine eY rfl ?_ λ_=>by kernel_rfl
 exact JA9
abbrev uz:=aF 253 Pb tO::aF 287 P4 tP::aF 206 Ql mQ::aF 254 U8 MA::aF 205 Lo LH::aF 171 R7 EM::aF 203 Pm zR::aF 202 Ox pW::aF 76 JAd kT::aF 153 Ri zS::va
theorem Q3:AD uz:=by
 iterate 10 refine eY rfl ?_ λ_=>by kernel_rfl
 exact Oo
abbrev tu:=aF 274 Mc UV::aF 232 L2 zP::aF 142 Q0 VV::aF 155 Nk wX::aF 173 U9 AP::aF 208 Pu UH::aF 255 JA7 mI::aF 172 P1 UL::aF 207 Kj zF::aF 204 S1 sC::uz
theorem Kw:AD tu:=by
 iterate 10 refine eY rfl ?_ λ_=>by kernel_rfl
 exact Q3
abbrev th:=aF 235 Gm DU::aF 276 Tc VF::aF 237 K5 LD::aF 233 Vk WF::aF 234 M6 wU::aF 191 Ky tS::aF 189 V4 mL::aF 190 V6 AN::aF 231 Rk wQ::aF 275 Kr RK::tu
theorem Gv:AD th:=by
 iterate 10 refine eY rfl ?_ λ_=>by kernel_rfl
 exact Kw
abbrev us:=aF 291 Qv UJ::aF 84 JAn JA::aF 183 Ii RN::aF 227 Fk RE::aF 161 Kk RU::aF 188 S6 LQ::aF 162 Hb jC::aF 192 Hl nW::aF 236 T0 tW::aF 277 JD7 zB::th
theorem Qd:AD us:=by
 iterate 10 refine eY rfl ?_ λ_=>by kernel_rfl
 exact Gv
abbrev vz:=aF 272 Qq VC::aF 292 Mm RW::aF 295 Nl gd::aF 273 N5 zZ::aF 187 Se AG::aF 230 JAk yY::aF 185 Ou zY::aF 228 W8 AM::aF 271 F4 KT::aF 270 Ss VR::us
theorem Pg:AD vz:=by
 iterate 10 refine eY rfl ?_ λ_=>by kernel_rfl
 exact Qd
abbrev wy:=aF 198 Xb AO::aF 144 Tg tY::aF 146 Kf RS::aF 160 Qg qH::aF 182 Iw zJ::aF 226 I0 zM::aF 268 Tb VK::aF 269 Hg RV::aF 186 Ka zH::aF 229 I2 zC::vz
theorem Xd:AD wy:=by
 iterate 10 refine eY rfl ?_ λ_=>by kernel_rfl
 exact Pg
abbrev WS:=aF 284 Wb WL::aF 245 Xj WH::aF 282 Nh LK::aF 165 Vi WQ::aF 199 Fy DV::aF 250 Lt DY::wy
theorem vr:AD WS:=by
 iterate 6 refine eY rfl ?_ λ_=>by kernel_rfl
 exact Xd
theorem Sc(r x):onO (kE g_ref09_closed x) (λy=>qR (TG.of (aF 285 g_ref09_closed r::WS)) gw y.1 y.2 (kJ g_ref09_closed))=ED r x:=by kernel_rfl
abbrev xo:=aF 285 g_ref09_closed uy::WS
theorem Rr:AD xo:=⟨YK (fn:=gw) (l:=WS) rfl (vr) rfl Sc 1100,vr⟩
abbrev vu:=aF 279 Vd VJ::aF 240 R1 AB::aF 246 Ub AH::aF 283 Gy RD::aF 248 Hy QY::aF 286 O0 VW::aF 242 Iy LC::aF 243 Lc LB::aF 281 Um wP::aF 247 P0 UP::xo
theorem Ui:AD vu:=by
 iterate 10 refine eY rfl ?_ λ_=>by kernel_rfl
 exact Rr
abbrev ur:=aF 200 Ke qD::aF 164 JDO QU::aF 197 Xx AK::aF 196 U5 wY::aF 195 JBM zA::aF 239 Wi uA::aF 278 T4 EG::aF 244 Hh LG::aF 241 P8 wT::aF 280 Vg WE::vu
theorem I9:AD ur:=by
 iterate 10 refine eY rfl ?_ λ_=>by kernel_rfl
 exact Ui
abbrev vh:=aF 178 Qa zT::aF 218 Lu UR::aF 219 Q7 LL::aF 44 Rq kW::aF 77 G8 rT::aF 42 Qb jW::aF 177 H4 UQ::aF 141 Zq WX::aF 152 JC0 QL::aF 166 L8 RL::ur
theorem Pk:AD vh:=by
 iterate 10 refine eY rfl ?_ λ_=>by kernel_rfl
 exact I9
abbrev ux:=aF 263 Pz WA::aF 290 Mj RR::aF 294 Ir RO::aF 220 Ls RI::aF 50 R3 kX::aF 86 Yz oC::aF 85 Z1 Jo::aF 87 Zw lJ::aF 48 Vx hX::aF 157 Om UN::vh
theorem Nt:AD ux:=by
 iterate 10 refine eY rfl ?_ λ_=>by kernel_rfl
 exact Pk
abbrev xz:=aF 221 Xi WJ::aF 262 Kz UT::aF 289 Ny tQ::aF 261 Qu VX::aF 288 Ru WB::aF 293 Sq VT::aF 296 Rn VN::aF 299 Y2 MB::aF 298 Z0 sG::aF 297 Tj VU::ux
theorem We:AD xz:=by
 iterate 10 refine eY rfl ?_ λ_=>by kernel_rfl
 exact Nt
abbrev rz:=aF 11 JCj wF::aF 32 Zc WW::aF 66 Zl WY::aF 99 Ht QZ::aF 124 Z5 XD::aF 140 Zs wZ::aF 145 JeI WZ::aF 158 K0 UU::aF 179 Lq US::aF 222 Pn UZ::xz
theorem JDM:AD rz:=by
 iterate 10 refine eY rfl ?_ λ_=>by kernel_rfl
 exact We
abbrev xl:=aF 17 Tt sB::aF 49 Sy JD::aF 12 JDg KN::aF 23 L3 RP::aF 27 Qc lE::aF 62 Wg rW::aF 64 Sk VL::aF 31 V8 oB::aF 36 Zx XC::aF 69 Z7 XA::rz
theorem Su:AD xl:=by
 iterate 10 refine eY rfl ?_ λ_=>by kernel_rfl
 exact JDM
abbrev vx:=aF 47 Tq VI::aF 82 Y5 MF::aF 83 Za MD::aF 81 JeO mU::aF 45 Xe LY::aF 78 Hp yX::aF 18 Ij s6::aF 28 Y1 yo::aF 14 R5 kY::aF 43 Lr qE::xl
theorem Ts:AD vx:=by
 iterate 10 refine eY rfl ?_ λ_=>by kernel_rfl
 exact Su
abbrev Yk:=aF 4 Xn WT::aF 20 Gs rR::aF 54 J8C MG::aF 3 Yb Yg::aF 16 Qz AA::aF 46 Wn EQ::aF 80 Yr uC::aF 79 Yv ma::aF 104 J9p me::vx
theorem Xt:AD Yk:=by
 iterate 9 refine eY rfl ?_ λ_=>by kernel_rfl
 exact Ts
end
end Go.Am
end
section
namespace Go.Proofs
open Go.Shelf Go.RowKit
def Tryz.ρA:Ren where
 f:=fun
  |99=>79
  |166=>37
  |169=>41
  |206=>104
  |240=>71
  |276=>101
  |167=>102
  |n=>n
 t:=fun
  |9=>9
  |3=>3
  |4=>4
  |20=>20
  |0=>0
  |46=>149
  |5=>5
  |72=>87
  |76=>90
  |51=>121
  |53=>164
  |70=>85
  |37=>22
  |75=>89
  |127=>126
  |164=>161
  |80=>94
  |n=>n
 g:=λn=>n
theorem Tryz.laysWS:Lays.n166 Tryz.prog Tryz.ρA where
 mixed:=by kernel_rfl
 f166:=by kernel_rfl
 f240:=by kernel_rfl
 f276:=by kernel_rfl
 t0:=Tryz.underlying0
 a0:=Tryz.isAgg0
 z0:=Tryz.sizeOf0
 v0:=Tryz.zeroValue0
 t3:=Tryz.underlying3
 a3:=Tryz.isAgg3
 z3:=Tryz.sizeOf3
 v3:=Tryz.zeroValue3
 t4:=Tryz.underlying4
 a4:=Tryz.isAgg4
 z4:=Tryz.sizeOf4
 v4:=Tryz.zeroValue4
 t9:=Tryz.underlying9
 a9:=Tryz.isAgg9
 z9:=Tryz.sizeOf9
 v9:=Tryz.zeroValue9
 t20:=Tryz.underlying20
 a20:=Tryz.isAgg20
 z20:=Tryz.sizeOf20
 v20:=Tryz.zeroValue20
 t37:=Tryz.underlying22
 a37:=Tryz.isAgg22
 z37:=Tryz.sizeOf22
 v37:=Tryz.zeroValue22
 t70:=Tryz.underlying85
 a70:=Tryz.isAgg85
 z70:=Tryz.sizeOf85
 v70:=Tryz.zeroValue85
 t72:=Tryz.underlying87
 a72:=Tryz.isAgg87
 z72:=Tryz.sizeOf87
 v72:=Tryz.zeroValue87
 t75:=Tryz.underlying89
 a75:=Tryz.isAgg89
 z75:=Tryz.sizeOf89
 v75:=Tryz.zeroValue89
 t164:=Tryz.underlying161
 a164:=Tryz.isAgg161
 z164:=Tryz.sizeOf161
 v164:=Tryz.zeroValue161
theorem Tryz.laysST:Lays.n169 Tryz.prog Tryz.ρA where
 mixed:=by kernel_rfl
 f169:=by kernel_rfl
 t0:=Tryz.underlying0
 a0:=Tryz.isAgg0
 z0:=Tryz.sizeOf0
 v0:=Tryz.zeroValue0
 t3:=Tryz.underlying3
 a3:=Tryz.isAgg3
 z3:=Tryz.sizeOf3
 v3:=Tryz.zeroValue3
 t9:=Tryz.underlying9
 a9:=Tryz.isAgg9
 z9:=Tryz.sizeOf9
 v9:=Tryz.zeroValue9
 t37:=Tryz.underlying22
 a37:=Tryz.isAgg22
 z37:=Tryz.sizeOf22
 v37:=Tryz.zeroValue22
 t70:=Tryz.underlying85
 a70:=Tryz.isAgg85
 z70:=Tryz.sizeOf85
 v70:=Tryz.zeroValue85
 t72:=Tryz.underlying87
 a72:=Tryz.isAgg87
 z72:=Tryz.sizeOf87
 v72:=Tryz.zeroValue87
 t127:=Tryz.underlying126
 a127:=Tryz.isAgg126
 z127:=Tryz.sizeOf126
 v127:=Tryz.zeroValue126
theorem Tryz.laysWB:Lays.n167 Tryz.prog Tryz.ρA where
 mixed:=by kernel_rfl
 f167:=by kernel_rfl
 f240:=by kernel_rfl
 f276:=by kernel_rfl
 t0:=Tryz.underlying0
 a0:=Tryz.isAgg0
 z0:=Tryz.sizeOf0
 v0:=Tryz.zeroValue0
 t4:=Tryz.underlying4
 a4:=Tryz.isAgg4
 z4:=Tryz.sizeOf4
 v4:=Tryz.zeroValue4
 t5:=Tryz.underlying5
 a5:=Tryz.isAgg5
 z5:=Tryz.sizeOf5
 v5:=Tryz.zeroValue5
 t9:=Tryz.underlying9
 a9:=Tryz.isAgg9
 z9:=Tryz.sizeOf9
 v9:=Tryz.zeroValue9
 t20:=Tryz.underlying20
 a20:=Tryz.isAgg20
 z20:=Tryz.sizeOf20
 v20:=Tryz.zeroValue20
 t37:=Tryz.underlying22
 a37:=Tryz.isAgg22
 z37:=Tryz.sizeOf22
 v37:=Tryz.zeroValue22
 t70:=Tryz.underlying85
 a70:=Tryz.isAgg85
 z70:=Tryz.sizeOf85
 v70:=Tryz.zeroValue85
 t72:=Tryz.underlying87
 a72:=Tryz.isAgg87
 z72:=Tryz.sizeOf87
 v72:=Tryz.zeroValue87
 t75:=Tryz.underlying89
 a75:=Tryz.isAgg89
 z75:=Tryz.sizeOf89
 v75:=Tryz.zeroValue89
 t164:=Tryz.underlying161
 a164:=Tryz.isAgg161
 z164:=Tryz.sizeOf161
 v164:=Tryz.zeroValue161
theorem Tryz.extraRep:Builder.Extra Tryz.prog Tryz.ρA where
 sizeBuilder:=by kernel_rfl
 liesBuilder:=by kernel_rfl
 t5:=Tryz.underlying5
 a5:=Tryz.isAgg5
 z5:=Tryz.sizeOf5
 v5:=Tryz.zeroValue5
 infoByte:=by kernel_rfl
 cellsByte:=by kernel_rfl
 sizeByte:=by kernel_rfl
 neB5:=by decide
theorem Tryz.WriteByte(B b:Nat)(g:List Value)(c:Int)(w:World)(h:Lib.IsBuilder 87 5 B b g w)(hlen:g.length+1<=140737488355328)(j:B<=w.heap.size):
  Calls Tryz.prog 102 #[.pointer (some ⟨b,0,none⟩),.int .u8 c] w λe w'=>e=.returned .nilIface/\(Lib.BuilderAt 87 5 B b (.pointer (some ⟨b,0,none⟩)) (g++[.int .u8 c]) w'/\Below B w w'):=
 Any.Builder_WriteByte Tryz.laysWB Tryz.extraRep B b g c w h hlen j
theorem Tryz.WriteString(B b:Nat)(g:List Value)(s:ByteArray)(w:World)(h:Lib.IsBuilder 87 5 B b g w)(hlen:g.length+s.size<=140737488355328)(j:B<=w.heap.size):
  Calls Tryz.prog 37 #[.pointer (some ⟨b,0,none⟩),.string s] w λe w'=>e=.returned (.tuple #[.int .i64 s.size,.nilIface])/\(Lib.BuilderAt 87 5 B b (.pointer (some ⟨b,0,none⟩)) (g++Lib.strCells s) w'/\Below B w w'):=
 Any.Builder_WriteString Tryz.laysWS Tryz.extraRep B b g s w h hlen j
theorem Tryz.String(B b:Nat)(l:List UInt8)(w:World)(h:Lib.IsBuilder 87 5 B b (Lib.byteCells l) w)(g:B<=w.heap.size):
  Calls Tryz.prog 41 #[.pointer (some ⟨b,0,none⟩)] w λe w'=>e=.returned (.string ⟨l.toArray⟩)/\Below B w w':=
 Any.Builder_String_any Tryz.laysST Tryz.extraRep B b l w h g
theorem S2(l:List UInt8)(n:Int)(k:Nat):Lib.byteCells (l++Am.J0v n k)++[.int .u8 (Am.J3q n k)]=Lib.byteCells (l++Am.J0v n (k+1)):=by
 rw[Am.Jrc,<-List.append_assoc,Lib.byteCells_append (l++Am.J0v n k)]
 congr 1
 show [Value.int .u8 _]=[Value.int .u8 ((UInt8.ofNat (Am.J3q n k).toNat).toNat:Int)];rw[Am.Jgt]
set_option maxHeartbeats 6400000 in
set_option maxRecDepth 100000 in
theorem Tryz.put(s:ByteArray)(n:Int)(k:Nat)(hk:1<=k)(C:k<=8)(hs:s.size+8<=140737488355328)(w:World):
  Calls Tryz.prog 72 #[.string s,.int .i64 n,.int .i64 k] w λe w'=>e=.returned (.string ⟨(s.data.toList++Am.J0v n k).toArray⟩)/\Below w.heap.size w w':=by
 have D:s.data.toList.length=s.size:=(Lib.size_eq s).symm;have o:Lib.IsBuilder 87 5 w.heap.size w.heap.size [] (w.alloc (.cells #[.pointer none,.slice none 0 0] 87)):=Lib.fresh_isBuilder 87 5 w;have h:Below w.heap.size w (w.alloc (.cells #[.pointer none,.slice none 0 0] 87)):=(Below.refl _ w).alloc (Nat.le_refl _) _
 go_enter Tryz.func72,Tryz.ntmps72
 go_wp2_with (go_at_call 37;refine(Tryz.WriteString w.heap.size w.heap.size [] s _ o (by simp;omega) h.size).mono ?_)
 rintro e y ⟨rfl,h1,b1⟩;have r:Lib.IsBuilder 87 5 w.heap.size w.heap.size (Lib.byteCells (s.data.toList++Am.J0v n 0)) y:=by rw[List.nil_append,Lib.strCells_eq]at h1;have x:Am.J0v n 0=[]:=rfl;rw[x,List.append_nil];exact Or.inr h1
 have v:=h.trans b1;clear h1 b1 o h
 go_wp2
 go_loopw [19] (λi wr=> ∃j:Nat,j<=k/\i=.int .i64 j/\Lib.IsBuilder 87 5 w.heap.size w.heap.size (Lib.byteCells (s.data.toList++Am.J0v n j)) wr/\Below w.heap.size w wr)
  (λi _=>k-(intOf i).toNat)
 case atStart=>exact⟨0,Nat.zero_le _,rfl,r,v⟩
 case round=>
  obtain⟨j,E,rfl,q,g⟩:=hrel;by_cases B:j<k
  ·go_wp2_with (go_at_call 102;refine(Tryz.WriteByte w.heap.size w.heap.size _ _ _ q (by rw[Lib.byteCells_length,List.length_append,Am.JC];omega) g.size).mono ?_;rintro e z ⟨rfl,h2,b2⟩)
   have A:Am.J3q n j=IntKind.u64.wrap n/2^(8*j)%256:=by show((IntKind.wrap .u64 n).fdiv (2^(8*j)))%256=_;rw[Int.fdiv_eq_ediv_of_nonneg _ (Int.le_of_lt (Int.pow_pos (by decide)))]
   rw[<-A,S2]at h2;exact⟨⟨j+1,by omega,by simp,Or.inr h2,g.trans b2⟩,by simp[intOf];omega⟩
  ·obtain rfl:j=k:=by omega
   go_wp2_with (go_at_call 41;refine(Tryz.String w.heap.size w.heap.size _ _ q g.size).mono ?_;rintro e z ⟨rfl,b2⟩)
   go_wp2
   go_ret
   exact⟨rfl,g.trans b2⟩
theorem Tryz.put_out(s:ByteArray)(n k:Int)(hk:k<1\/8<k)(w:World):
  Calls Tryz.prog 72 #[.string s,.int .i64 n,.int .i64 k] w λe w'=>e=.returned (.string s)/\Below w.heap.size w w':=by
 go_enter Tryz.func72,Tryz.ntmps72
 go_wp2
 all_goals (go_ret;exact⟨rfl,Below.refl _ _⟩)
theorem JHH(l:List UInt8):(⟨l.toArray⟩:ByteArray).data.toList=l:=rfl
theorem Ie(args:List Am.AV)(blks:List Am.Blk)(r:Am.Res)(h:Am.JCa args blks=some r):Am.J67 Tryz.prog 72 args blks r:=by
 unfold Am.JCa at h;split at h;rename_i bl l n k;obtain⟨x,e,rfl⟩:=Option.map_eq_some_iff.1 h;unfold Am.Jkk at e;split at e;rename_i j;injection e with e;subst e;exact Am.JBD (xs:=[.s l,.i .i64 n,.i .i64 k]) (vs:=[.string ⟨l.toArray⟩,.int .i64 n,.int .i64 k]) (v:=.string ⟨l.toArray⟩) ⟨_,Tryz.func72,by decide,by decide⟩ rfl rfl λw=>Tryz.put_out _ n k j w;rename_i j;split at e;rename_i h2;injection e with e;subst e;refine Am.JBD (xs:=[.s l,.i .i64 n,.i .i64 k]) (vs:=[.string ⟨l.toArray⟩,.int .i64 n,.int .i64 k]) (v:=.string ⟨(l++Am.J0v n k.toNat).toArray⟩) ⟨_,Tryz.func72,by decide,by decide⟩ rfl rfl λw=>?_;have g:=Tryz.put ⟨l.toArray⟩ n k.toNat (by omega) (by omega) (by rw[Lib.size_eq];exact h2) w;rw[JHH,show((k.toNat:Nat):Int)=k by omega]at g;exact g;cases e;cases h
end Go.Proofs
end
