/-
  Parts of a proof.
-/
import Derived.Shelf.Strings.Builder1
import Derived.Shelf.Lays
import Derived.Test.YtfedfekakecnfaaGreatChecked
import Derived.Lib.Agree
import Derived.KernelRfl
import Derived.WalkKit
import Derived.BigCall
import Derived.Shelf.SlSortCmp.WholeK
import Derived.Shelf.SlLaysF0
import Derived.WalkSpells
import Derived.Tactics
import Derived.Tactics2
import Derived.Deep.RegionHeld3
import Derived.StillTactics
import Derived.Test.YtfedfekakecnfaaGreatM2
import Derived.Test.YtfedfekakecnfaaGreatM3
import Derived.Test.YtfedfekakecnfaaGreatM4
import Derived.Test.YtfedfekakecnfaaGreatM6
set_option linter.unusedSimpArgs false
set_option linter.unusedVariables false
section
namespace Go.Am
set_option maxRecDepth 20000
set_option maxHeartbeats 4000000
noncomputable section
theorem Yz{i g S l f}(hf: ∀p,rH p i=some (.fn (aK f)))(A:AE l)(q: ∀x,onO (gL g x) (λy=>kW (TG.of l) f y.1 y.2 (hJ g))=S x):AE (bU i g S::l):=λp=>⟨WK (hf p) (A p) q,A p⟩
theorem Wq(r x):onO (gL g_draw_Codes_Next x) (λy=>kW (TG.of (aF 21 g_draw_Codes_Next r::[])) kg y.1 y.2 (hJ g_draw_Codes_Next))=DM r x:=by kernel_rfl
abbrev wo:=aF 21 g_draw_Codes_Next Ji::[]
theorem Wm:AE wo:=λp=>⟨XB (fn:=kg) (l:=[]) rfl (ae0 p) rfl Wq 100,ae0 p⟩
abbrev tq:=aF 89 Qh N2::aF 109 V6 zA::aF 108 Vu kU::aF 105 V8 gY::aF 106 H3 vB::aF 107 Ri sU::aF 126 Ro yX::aF 127 Xj zD::aF 88 Tg pA::aF 10 JBw sJ::wo
theorem Mo:AE tq:=by
 iterate 10 refine zG (λ_=>rfl) ?_ λ_=>by kernel_rfl
 exact Wm
abbrev sd:=aF 19 Ld iS::bU 53 V7 DP::bU 51 Xb DN::aF 90 Uj vM::aF 30 S6 DJ::aF 65 Kk yR::aF 59 Ww qS::aF 93 Vn DD::aF 52 My nE::tq
theorem qc:AE sd:=by
 refine zG (λ_=>rfl) ?_ λ_=>by kernel_rfl
 iterate 2 refine Yz (λ_=>rfl) ?_ λ_=>by kernel_rfl
 iterate 6 refine zG (λ_=>rfl) ?_ λ_=>by kernel_rfl
 exact Mo
abbrev qf:=aF 72 Dz eW::sd
theorem Fb:AE qf:=λp=>⟨JHQ rfl,qc p⟩
abbrev qe:=aF 39 El uY::qf
theorem ph:AE qe:=by
 refine zG (λ_=>rfl) ?_ λ_=>by kernel_rfl
 exact Fb
abbrev tj:=aF 38 N7 lQ::aF 73 E8 PP::aF 103 Xk VK::qe
theorem ss:AE tj:=by
 iterate 3 refine zG (λ_=>rfl) ?_ λ_=>by kernel_rfl
 exact ph
abbrev vt:=aF 40 Rk sW::aF 74 Eb du::tj
theorem tv:AE vt:=by
 iterate 2 refine zG (λ_=>rfl) ?_ λ_=>by kernel_rfl
 exact ss
noncomputable def wQ:PS:=λf=>if f=13 then some (vO eB CY)else none
theorem Nd:rH wQ 13=some (.prim (vO eB CY)):=rfl
def AD(l:List TE):Prop:=rJ (AF (rH wQ)) l
theorem eN{i g S l f}(hf:rH wQ i=some (.fn (aK f)))(A:AD l)(q: ∀x,onO (gL g x) (λy=>kW (TG.of l) f y.1 y.2 (hJ g))=S x)(hs:BQ g=true:=by rfl):AD (aF i g S::l):=⟨jv hf A hs q,A⟩
theorem LS{i g S l f}(hf:rH wQ i=some (.fn (aK f)))(A:AD l)(q: ∀x,onO (gL g x) (λy=>kW (TG.of l) f y.1 y.2 (hJ g))=S x):AD (bU i g S::l):=⟨WK hf A q,A⟩
abbrev tp:=aF 13 Nu CY::vt
theorem Mi:AD tp:=⟨JIW Nd,tv wQ⟩
abbrev rp:=aF 135 E1 IJ::aF 137 Fi Gr::aF 123 Gc PU::aF 138 Ra UB::aF 100 Yc VM::aF 125 Wz VH::aF 148 Xt KS::aF 35 Wd gG::aF 70 Xa DL::aF 9 N8 TH::tp
theorem Fo:AD rp:=by
 iterate 10 refine eN rfl ?_ λ_=>by kernel_rfl
 exact Mi
abbrev ua:=aF 67 Qm dG::aF 68 La nA::aF 63 Ph JF::aF 96 Mg oT::aF 121 Pp jQ::aF 134 Wl gH::aF 97 Ry jR::aF 98 D1 PT::aF 122 Gn PQ::aF 136 Fj II::rp
theorem Pg:AD ua:=by
 iterate 10 refine eN rfl ?_ λ_=>by kernel_rfl
 exact Fo
abbrev th:=aF 264 Nx DA::aF 249 We sR::aF 181 N5 yM::aF 163 N0 KF::aF 194 He jN::aF 193 Nj hX::aF 238 L5 oS::aF 147 Rx Jv::aF 34 Hr vA::aF 33 L8 lP::ua
theorem Mk:AD th:=by
 iterate 10 refine eN rfl ?_ λ_=>by kernel_rfl
 exact Pg
abbrev wx:=aF 225 Xc sY::aF 224 Mr lR::aF 267 Ed CO::aF 169 M4 eA::aF 201 Pt lU::aF 251 Ve pD::aF 252 On nD::aF 223 Qd kR::aF 266 Iy qK::aF 265 Km IN::th
theorem Xe:AD wx:=by
 iterate 10 refine eN rfl ?_ λ_=>by kernel_rfl
 exact Mk
abbrev qu:=aF 213 Kh fS::aF 217 Fy qM::aF 260 D2 PR::aF 215 Ea fD::aF 214 T8 lM::aF 24 Uz JD::aF 139 L2 TU::aF 151 Og SR::aF 159 Na JH::aF 180 Pu yG::wx
theorem Ik:AD qu:=by
 iterate 10 refine eN rfl ?_ λ_=>by kernel_rfl
 exact Xe
abbrev qd:=aF 75 Dy JK::aF 176 Gl hW::aF 184 I9 uZ::aF 167 Es oY::aF 154 G4 jO::aF 170 Kc kT::aF 216 K5 fE::aF 259 Sj qJ::aF 258 Gq oZ::aF 257 Q8 DG::qu
theorem Ev:AD qd:=by
 iterate 10 refine eN rfl ?_ λ_=>by kernel_rfl
 exact Ik
abbrev tg:=aF 168 P6 qP::aF 143 X0 VL::aF 156 Lj QC::aF 174 JDn PB::aF 209 Mw KA::aF 175 S1 UI::aF 210 Lz KE::aF 211 Ru UE::aF 256 Us KL::aF 212 Ti UK::qd
theorem Nv:AD tg:=by
 iterate 10 refine eN rfl ?_ λ_=>by kernel_rfl
 exact Ev
abbrev sy:=aF 253 P0 sO::aF 287 P3 sP::aF 206 Ps lT::aF 254 T6 KI::aF 205 K8 IV::aF 171 Qr DK::aF 203 Ot yH::aF 202 Ov oW::aF 76 Er xZ::aF 153 Pj yI::tg
theorem O6:AD sy:=by
 iterate 10 refine eN rfl ?_ λ_=>by kernel_rfl
 exact Nv
abbrev q7:=aF 274 Lh TS::aF 232 Kd xU::aF 142 Qj TL::aF 155 Mp vG::aF 173 Um yV::aF 208 Ng SP::aF 255 Ex lK::aF 172 Nn SS::aF 207 Ir yB::aF 204 S7 qI::sy
theorem Ks:AD q7:=by
 iterate 10 refine eN rfl ?_ λ_=>by kernel_rfl
 exact O6
abbrev rn:=aF 235 D5 CR::aF 276 R8 UJ::aF 237 Ii IS::aF 233 Ui UX::aF 234 M2 vD::aF 191 I1 sL::aF 189 Uw lN::aF 190 Uy yT::aF 231 Qu vJ::aF 275 Kn PY::q7
theorem Ec:AD rn:=by
 iterate 10 refine eN rfl ?_ λ_=>by kernel_rfl
 exact Ks
abbrev tu:=aF 291 Qf SQ::aF 84 JA7 dS::aF 183 Ho QA::aF 227 Fk PN::aF 161 I2 QF::aF 188 R4 IZ::aF 162 G3 iR::aF 192 Hs nB::aF 236 Sx sT::aF 277 JCL xS::rn
theorem Qc:AD tu:=by
 iterate 10 refine eN rfl ?_ λ_=>by kernel_rfl
 exact Ec
abbrev tz:=aF 272 Qn TI::aF 292 K9 QH::aF 295 Mq eh::aF 273 Ma yP::aF 187 R1 yY::aF 230 JA3 yA::aF 185 Ny yO::aF 228 Vt zC::aF 271 E6 IG::aF 270 Sg UD::tu
theorem Oj:AD tz:=by
 iterate 10 refine eN rfl ?_ λ_=>by kernel_rfl
 exact Qc
abbrev u5:=aF 198 Vx yU::aF 144 Rc sV::aF 146 Im QE::aF 160 Pn oU::aF 182 Hz yE::aF 226 Hb yQ::aF 268 R7 UN::aF 269 G8 QG::aF 186 Iv yD::aF 229 Hd xV::tz
theorem Vz:AD u5:=by
 iterate 10 refine eN rfl ?_ λ_=>by kernel_rfl
 exact Oj
abbrev VG:=aF 284 U2 VD::aF 245 V4 UZ::aF 282 N4 KB::aF 165 Ug UT::aF 199 Ge CS::aF 250 K0 CU::u5
theorem ue:AD VG:=by
 iterate 6 refine eN rfl ?_ λ_=>by kernel_rfl
 exact Vz
theorem Rz(r x):onO (gL g_ref09_closed x) (λy=>kW (TG.of (aF 285 g_ref09_closed r::VG)) fh y.1 y.2 (hJ g_ref09_closed))=DF r x:=by kernel_rfl
abbrev vk:=aF 285 g_ref09_closed sx::VG
theorem Q1:AD vk:=⟨XB (fn:=fh) (l:=VG) rfl (ue) rfl Rz 1100,ue⟩
abbrev uf:=aF 279 Ub UM::aF 240 Rv yW::aF 246 To yZ::aF 283 Gm PM::aF 248 Fv PW::aF 286 Oy TM::aF 242 H1 IQ::aF 243 Kx IP::aF 281 So vI::aF 247 Nm SX::vk
theorem Si:AD uf:=by
 iterate 10 refine eN rfl ?_ λ_=>by kernel_rfl
 exact Q1
abbrev su:=aF 200 Il oR::aF 164 JDt PI::aF 197 Wc zB::aF 196 T3 vL::aF 195 JBx xR::aF 239 Vc sQ::aF 278 S2 DI::aF 244 G9 IU::aF 241 P7 vC::aF 280 Ue UV::uf
theorem Iu:AD su:=by
 iterate 10 refine eN rfl ?_ λ_=>by kernel_rfl
 exact Si
abbrev tn:=aF 178 P9 yJ::aF 218 K1 QL::aF 219 Pa KC::aF 44 Q0 TX::aF 77 F8 IM::aF 42 Qa IX::aF 177 F3 QK::aF 141 X5 VO::aF 152 JBK OY::aF 166 Ln PZ::su
theorem Oo:AD tn:=by
 iterate 10 refine eN rfl ?_ λ_=>by kernel_rfl
 exact Iu
abbrev sw:=aF 263 Nl TW::aF 290 Lw QD::aF 294 H9 QB::aF 220 Kz QI::aF 50 Qp TY::aF 86 Xn KQ::aF 85 Yh lX::aF 87 Yf KN::aF 48 Ut KK::aF 157 Nt SV::tn
theorem Mx:AD sw:=by
 iterate 10 refine eN rfl ?_ λ_=>by kernel_rfl
 exact Oo
abbrev vh:=aF 221 V3 VB::aF 262 Ib TQ::aF 289 L3 sS::aF 261 Qe TN::aF 288 Q4 UH::aF 293 Se UF::aF 296 Qx TZ::aF 299 Xq KR::aF 298 Yg qU::aF 297 Rg UG::sw
theorem U5:AD vh:=by
 iterate 10 refine eN rfl ?_ λ_=>by kernel_rfl
 exact Mx
abbrev pm:=aF 11 JC2 xQ::aF 32 Xu VI::aF 66 X7 VP::aF 99 G0 PX::aF 124 Ye VN::aF 140 X8 vN::aF 145 Yl VQ::aF 158 Ic TR::aF 179 Lk TP::aF 222 M8 SZ::vh
theorem JDr:AD pm:=by
 iterate 10 refine eN rfl ?_ λ_=>by kernel_rfl
 exact U5
abbrev Dr:=bU 60 J87 KT::aF 58 Q9 vK::aF 56 Rm UP::aF 18 H2 CX::aF 28 Xp KP::aF 23 Ke qL::aF 27 Qb lO::aF 62 U7 jS::aF 64 Rs DH::aF 31 U0 jT::pm
theorem J7U:AD Dr:=by
 refine LS rfl ?_ λ_=>by kernel_rfl
 iterate 9 refine eN rfl ?_ λ_=>by kernel_rfl
 exact JDr
abbrev Du:=bU 61 J7G KU::Dr
theorem J7H:AD Du:=⟨JJ7 (t:=J3) (N:=J7h) rfl,J7U⟩
abbrev VT:=bU 128 J8G J8l::bU 149 J7g J7k::bU 110 J6f J6l::bU 53 Wi KM::aF 55 J60 VS::aF 91 J6u VR::bU 51 Xl VJ::Du
theorem Dp:AD VT:=by
 iterate 4 refine LS rfl ?_ λ_=>by kernel_rfl
 iterate 2 refine eN rfl ?_ λ_=>by kernel_rfl
 refine LS rfl ?_ λ_=>by kernel_rfl
 exact J7H
theorem J7I(r x):onO (gL g_slices_symMergeCmpFunc_api_Entry__0 x) (λy=>kW (TG.of (bU 111 g_slices_symMergeCmpFunc_api_Entry__0 r::VT)) kl y.1 y.2 (hJ g_slices_symMergeCmpFunc_api_Entry__0))=Dq r x:=by kernel_rfl
abbrev Ds:=bU 111 g_slices_symMergeCmpFunc_api_Entry__0 J7F::VT
theorem J7J:AD Ds:=⟨A8 (fn:=kl) (l:=VT) rfl (Dp) J7I 100,Dp⟩
abbrev Xg:=aF 5 Wx VF::aF 22 Ee xT::bU 57 J5k km::bU 92 J8w J8v::Ds
theorem Wk:AD Xg:=by
 iterate 2 refine eN rfl ?_ λ_=>by kernel_rfl
 iterate 2 refine LS rfl ?_ λ_=>by kernel_rfl
 exact J7J
end
end Go.Am
end
section
namespace Go.Proofs
open Go.Shelf Go.RowKit
def Tryz.ρA:Ren where
 f:=fun
  |99=>79
  |166=>37
  |169=>41
  |206=>104
  |240=>71
  |276=>101
  |167=>102
  |n=>n
 t:=fun
  |9=>9
  |3=>3
  |4=>4
  |20=>20
  |0=>0
  |46=>149
  |5=>5
  |72=>87
  |76=>90
  |51=>121
  |53=>164
  |70=>85
  |37=>22
  |75=>89
  |127=>126
  |164=>161
  |80=>94
  |n=>n
 g:=λn=>n
theorem Tryz.laysWS:Lays.n166 Tryz.prog Tryz.ρA where
 mixed:=by kernel_rfl
 f166:=by kernel_rfl
 f240:=by kernel_rfl
 f276:=by kernel_rfl
 t0:=Tryz.underlying0
 a0:=Tryz.isAgg0
 z0:=Tryz.sizeOf0
 v0:=Tryz.zeroValue0
 t3:=Tryz.underlying3
 a3:=Tryz.isAgg3
 z3:=Tryz.sizeOf3
 v3:=Tryz.zeroValue3
 t4:=Tryz.underlying4
 a4:=Tryz.isAgg4
 z4:=Tryz.sizeOf4
 v4:=Tryz.zeroValue4
 t9:=Tryz.underlying9
 a9:=Tryz.isAgg9
 z9:=Tryz.sizeOf9
 v9:=Tryz.zeroValue9
 t20:=Tryz.underlying20
 a20:=Tryz.isAgg20
 z20:=Tryz.sizeOf20
 v20:=Tryz.zeroValue20
 t37:=Tryz.underlying22
 a37:=Tryz.isAgg22
 z37:=Tryz.sizeOf22
 v37:=Tryz.zeroValue22
 t70:=Tryz.underlying85
 a70:=Tryz.isAgg85
 z70:=Tryz.sizeOf85
 v70:=Tryz.zeroValue85
 t72:=Tryz.underlying87
 a72:=Tryz.isAgg87
 z72:=Tryz.sizeOf87
 v72:=Tryz.zeroValue87
 t75:=Tryz.underlying89
 a75:=Tryz.isAgg89
 z75:=Tryz.sizeOf89
 v75:=Tryz.zeroValue89
 t164:=Tryz.underlying161
 a164:=Tryz.isAgg161
 z164:=Tryz.sizeOf161
 v164:=Tryz.zeroValue161
theorem Tryz.laysST:Lays.n169 Tryz.prog Tryz.ρA where
 mixed:=by kernel_rfl
 f169:=by kernel_rfl
 t0:=Tryz.underlying0
 a0:=Tryz.isAgg0
 z0:=Tryz.sizeOf0
 v0:=Tryz.zeroValue0
 t3:=Tryz.underlying3
 a3:=Tryz.isAgg3
 z3:=Tryz.sizeOf3
 v3:=Tryz.zeroValue3
 t9:=Tryz.underlying9
 a9:=Tryz.isAgg9
 z9:=Tryz.sizeOf9
 v9:=Tryz.zeroValue9
 t37:=Tryz.underlying22
 a37:=Tryz.isAgg22
 z37:=Tryz.sizeOf22
 v37:=Tryz.zeroValue22
 t70:=Tryz.underlying85
 a70:=Tryz.isAgg85
 z70:=Tryz.sizeOf85
 v70:=Tryz.zeroValue85
 t72:=Tryz.underlying87
 a72:=Tryz.isAgg87
 z72:=Tryz.sizeOf87
 v72:=Tryz.zeroValue87
 t127:=Tryz.underlying126
 a127:=Tryz.isAgg126
 z127:=Tryz.sizeOf126
 v127:=Tryz.zeroValue126
theorem Tryz.laysWB:Lays.n167 Tryz.prog Tryz.ρA where
 mixed:=by kernel_rfl
 f167:=by kernel_rfl
 f240:=by kernel_rfl
 f276:=by kernel_rfl
 t0:=Tryz.underlying0
 a0:=Tryz.isAgg0
 z0:=Tryz.sizeOf0
 v0:=Tryz.zeroValue0
 t4:=Tryz.underlying4
 a4:=Tryz.isAgg4
 z4:=Tryz.sizeOf4
 v4:=Tryz.zeroValue4
 t5:=Tryz.underlying5
 a5:=Tryz.isAgg5
 z5:=Tryz.sizeOf5
 v5:=Tryz.zeroValue5
 t9:=Tryz.underlying9
 a9:=Tryz.isAgg9
 z9:=Tryz.sizeOf9
 v9:=Tryz.zeroValue9
 t20:=Tryz.underlying20
 a20:=Tryz.isAgg20
 z20:=Tryz.sizeOf20
 v20:=Tryz.zeroValue20
 t37:=Tryz.underlying22
 a37:=Tryz.isAgg22
 z37:=Tryz.sizeOf22
 v37:=Tryz.zeroValue22
 t70:=Tryz.underlying85
 a70:=Tryz.isAgg85
 z70:=Tryz.sizeOf85
 v70:=Tryz.zeroValue85
 t72:=Tryz.underlying87
 a72:=Tryz.isAgg87
 z72:=Tryz.sizeOf87
 v72:=Tryz.zeroValue87
 t75:=Tryz.underlying89
 a75:=Tryz.isAgg89
 z75:=Tryz.sizeOf89
 v75:=Tryz.zeroValue89
 t164:=Tryz.underlying161
 a164:=Tryz.isAgg161
 z164:=Tryz.sizeOf161
 v164:=Tryz.zeroValue161
theorem Tryz.extraRep:Builder.Extra Tryz.prog Tryz.ρA where
 sizeBuilder:=by kernel_rfl
 liesBuilder:=by kernel_rfl
 t5:=Tryz.underlying5
 a5:=Tryz.isAgg5
 z5:=Tryz.sizeOf5
 v5:=Tryz.zeroValue5
 infoByte:=by kernel_rfl
 cellsByte:=by kernel_rfl
 sizeByte:=by kernel_rfl
 neB5:=by decide
theorem Tryz.WriteByte(B b:Nat)(g:List Value)(c:Int)(w:World)(h:Lib.IsBuilder 87 5 B b g w)(hlen:g.length+1<=140737488355328)(j:B<=w.heap.size):
  Calls Tryz.prog 102 #[.pointer (some ⟨b,0,none⟩),.int .u8 c] w λe w'=>e=.returned .nilIface/\(Lib.BuilderAt 87 5 B b (.pointer (some ⟨b,0,none⟩)) (g++[.int .u8 c]) w'/\Below B w w'):=
 Any.Builder_WriteByte Tryz.laysWB Tryz.extraRep B b g c w h hlen j
theorem Tryz.WriteString(B b:Nat)(g:List Value)(s:ByteArray)(w:World)(h:Lib.IsBuilder 87 5 B b g w)(hlen:g.length+s.size<=140737488355328)(j:B<=w.heap.size):
  Calls Tryz.prog 37 #[.pointer (some ⟨b,0,none⟩),.string s] w λe w'=>e=.returned (.tuple #[.int .i64 s.size,.nilIface])/\(Lib.BuilderAt 87 5 B b (.pointer (some ⟨b,0,none⟩)) (g++Lib.strCells s) w'/\Below B w w'):=
 Any.Builder_WriteString Tryz.laysWS Tryz.extraRep B b g s w h hlen j
theorem Tryz.String(B b:Nat)(l:List UInt8)(w:World)(h:Lib.IsBuilder 87 5 B b (Lib.byteCells l) w)(g:B<=w.heap.size):
  Calls Tryz.prog 41 #[.pointer (some ⟨b,0,none⟩)] w λe w'=>e=.returned (.string ⟨l.toArray⟩)/\Below B w w':=
 Any.Builder_String_any Tryz.laysST Tryz.extraRep B b l w h g
theorem R2(l:List UInt8)(n:Int)(k:Nat):Lib.byteCells (l++Am.J8R n k)++[.int .u8 (Am.Jar n k)]=Lib.byteCells (l++Am.J8R n (k+1)):=by
 rw[Am.JEY,<-List.append_assoc,Lib.byteCells_append (l++Am.J8R n k)]
 congr 1
 show [Value.int .u8 _]=[Value.int .u8 ((UInt8.ofNat (Am.Jar n k).toNat).toNat:Int)];rw[Am.JDl]
set_option maxHeartbeats 6400000 in
set_option maxRecDepth 100000 in
theorem Tryz.put(s:ByteArray)(n:Int)(k:Nat)(hk:1<=k)(C:k<=8)(hs:s.size+8<=140737488355328)(w:World):
  Calls Tryz.prog 72 #[.string s,.int .i64 n,.int .i64 k] w λe w'=>e=.returned (.string ⟨(s.data.toList++Am.J8R n k).toArray⟩)/\Below w.heap.size w w':=by
 have D:s.data.toList.length=s.size:=(Lib.size_eq s).symm;have v:Lib.IsBuilder 87 5 w.heap.size w.heap.size [] (w.alloc (.cells #[.pointer none,.slice none 0 0] 87)):=Lib.fresh_isBuilder 87 5 w;have h:Below w.heap.size w (w.alloc (.cells #[.pointer none,.slice none 0 0] 87)):=(Below.refl _ w).alloc (Nat.le_refl _) _
 go_enter Tryz.func72,Tryz.ntmps72
 go_wp2_with (go_at_call 37;refine(Tryz.WriteString w.heap.size w.heap.size [] s _ v (by simp;omega) h.size).mono ?_)
 rintro e y ⟨rfl,h1,b1⟩;have q:Lib.IsBuilder 87 5 w.heap.size w.heap.size (Lib.byteCells (s.data.toList++Am.J8R n 0)) y:=by rw[List.nil_append,Lib.strCells_eq]at h1;have x:Am.J8R n 0=[]:=rfl;rw[x,List.append_nil];exact Or.inr h1
 have r:=h.trans b1;clear h1 b1 v h
 go_wp2
 go_loopw [19] (λi wr=> ∃j:Nat,j<=k/\i=.int .i64 j/\Lib.IsBuilder 87 5 w.heap.size w.heap.size (Lib.byteCells (s.data.toList++Am.J8R n j)) wr/\Below w.heap.size w wr)
  (λi _=>k-(intOf i).toNat)
 case atStart=>exact⟨0,Nat.zero_le _,rfl,q,r⟩
 case round=>
  obtain⟨j,E,rfl,o,g⟩:=hrel;by_cases B:j<k
  ·go_wp2_with (go_at_call 102;refine(Tryz.WriteByte w.heap.size w.heap.size _ _ _ o (by rw[Lib.byteCells_length,List.length_append,Am.Jkb];omega) g.size).mono ?_;rintro e z ⟨rfl,h2,b2⟩)
   have A:Am.Jar n j=IntKind.u64.wrap n/2^(8*j)%256:=by show((IntKind.wrap .u64 n).fdiv (2^(8*j)))%256=_;rw[Int.fdiv_eq_ediv_of_nonneg _ (Int.le_of_lt (Int.pow_pos (by decide)))]
   rw[<-A,R2]at h2;exact⟨⟨j+1,by omega,by simp,Or.inr h2,g.trans b2⟩,by simp[intOf];omega⟩
  ·obtain rfl:j=k:=by omega
   go_wp2_with (go_at_call 41;refine(Tryz.String w.heap.size w.heap.size _ _ o g.size).mono ?_;rintro e z ⟨rfl,b2⟩)
   go_wp2
   go_ret
   exact⟨rfl,g.trans b2⟩
theorem Tryz.put_out(s:ByteArray)(n k:Int)(hk:k<1\/8<k)(w:World):
  Calls Tryz.prog 72 #[.string s,.int .i64 n,.int .i64 k] w λe w'=>e=.returned (.string s)/\Below w.heap.size w w':=by
 go_enter Tryz.func72,Tryz.ntmps72
 go_wp2
 all_goals (go_ret;exact⟨rfl,Below.refl _ _⟩)
theorem JHl(l:List UInt8):(⟨l.toArray⟩:ByteArray).data.toList=l:=rfl
theorem Hk(args:List Am.AV)(blks:List Am.Blk)(r:Am.Res)(h:Am.JBT args blks=some r):Am.J4v Tryz.prog 72 args blks r:=by
 unfold Am.JBT at h;split at h;rename_i bl l n k;obtain⟨x,e,rfl⟩:=Option.map_eq_some_iff.1 h;unfold Am.Jkp at e;split at e;rename_i hc;injection e with e;subst e;exact Am.JBm (xs:=[.s l,.i .i64 n,.i .i64 k]) (vs:=[.string ⟨l.toArray⟩,.int .i64 n,.int .i64 k]) (v:=.string ⟨l.toArray⟩) ⟨_,Tryz.func72,by decide,by decide⟩ rfl rfl λw=>Tryz.put_out _ n k hc w;rename_i hc;split at e;rename_i h2;injection e with e;subst e;refine Am.JBm (xs:=[.s l,.i .i64 n,.i .i64 k]) (vs:=[.string ⟨l.toArray⟩,.int .i64 n,.int .i64 k]) (v:=.string ⟨(l++Am.J8R n k.toNat).toArray⟩) ⟨_,Tryz.func72,by decide,by decide⟩ rfl rfl λw=>?_;have g:=Tryz.put ⟨l.toArray⟩ n k.toNat (by omega) (by omega) (by rw[Lib.size_eq];exact h2) w;rw[JHl,show((k.toNat:Nat):Int)=k by omega]at g;exact g;cases e;cases h
end Go.Proofs
end
section
namespace Go.Proofs
open Go.Shelf Go.RowKit Go.Lib Go.Sort
def Tryz.ρS:Ren where
 f:=fun
  |6=>61
  |14=>94
  |15=>95
  |20=>110
  |21=>112
  |22=>113
  |23=>114
  |24=>115
  |25=>116
  |26=>117
  |27=>118
  |28=>119
  |29=>120
  |46=>129
  |47=>130
  |48=>131
  |49=>132
  |50=>133
  |57=>150
  |n=>n
 t:=fun
  |0=>0
  |3=>3
  |4=>4
  |5=>5
  |9=>9
  |22=>26
  |24=>52
  |25=>61
  |39=>149
  |45=>168
  |46=>169
  |50=>173
  |53=>121
  |55=>164
  |66=>193
  |70=>197
  |76=>213
  |77=>214
  |n=>n
 g:=λn=>n
set_option maxRecDepth 100000 in
theorem Tryz.laysSort:SlLaysF0.n6 Tryz.prog Tryz.ρS where
 mixed:=by kernel_rfl
 f6:=⟨"slices.SortFunc[[]pagemend/api.Entry,pagemend/api.Entry]",by decide,by kernel_rfl⟩
 f14:=⟨"slices.pdqsortCmpFunc[pagemend/api.Entry]",by decide,by kernel_rfl⟩
 f15:=by kernel_rfl
 f20:=⟨"slices.insertionSortCmpFunc[pagemend/api.Entry]",by decide,by kernel_rfl⟩
 f21:=⟨"slices.heapSortCmpFunc[pagemend/api.Entry]",by decide,by kernel_rfl⟩
 f22:=⟨"slices.breakPatternsCmpFunc[pagemend/api.Entry]",by decide,by kernel_rfl⟩
 f23:=⟨"slices.choosePivotCmpFunc[pagemend/api.Entry]",by decide,by kernel_rfl⟩
 f24:=⟨"slices.reverseRangeCmpFunc[pagemend/api.Entry]",by decide,by kernel_rfl⟩
 f25:=⟨"slices.partialInsertionSortCmpFunc[pagemend/api.Entry]",by decide,by kernel_rfl⟩
 f26:=⟨"slices.partitionEqualCmpFunc[pagemend/api.Entry]",by decide,by kernel_rfl⟩
 f27:=⟨"slices.partitionCmpFunc[pagemend/api.Entry]",by decide,by kernel_rfl⟩
 f28:=by kernel_rfl
 f29:=by kernel_rfl
 f46:=⟨"slices.siftDownCmpFunc[pagemend/api.Entry]",by decide,by kernel_rfl⟩
 f47:=by kernel_rfl
 f48:=by kernel_rfl
 f49:=⟨"slices.medianAdjacentCmpFunc[pagemend/api.Entry]",by decide,by kernel_rfl⟩
 f50:=⟨"slices.medianCmpFunc[pagemend/api.Entry]",by decide,by kernel_rfl⟩
 f57:=⟨"slices.order2CmpFunc[pagemend/api.Entry]",by decide,by kernel_rfl⟩
 t0:=Tryz.underlying0
 a0:=Tryz.isAgg0
 z0:=Tryz.sizeOf0
 v0:=Tryz.zeroValue0
 t3:=Tryz.underlying3
 a3:=Tryz.isAgg3
 z3:=Tryz.sizeOf3
 v3:=Tryz.zeroValue3
 t4:=Tryz.underlying4
 a4:=Tryz.isAgg4
 z4:=Tryz.sizeOf4
 v4:=Tryz.zeroValue4
 t5:=Tryz.underlying5
 a5:=Tryz.isAgg5
 z5:=Tryz.sizeOf5
 v5:=Tryz.zeroValue5
 t9:=Tryz.underlying9
 a9:=Tryz.isAgg9
 z9:=Tryz.sizeOf9
 v9:=Tryz.zeroValue9
 t22:=Tryz.underlying26
 a22:=Tryz.isAgg26
 z22:=Tryz.sizeOf26
 v22:=Tryz.zeroValue26
 t25:=Tryz.underlying61
 a25:=Tryz.isAgg61
 z25:=Tryz.sizeOf61
 v25:=Tryz.zeroValue61
 t39:=Tryz.underlying149
 a39:=Tryz.isAgg149
 z39:=Tryz.sizeOf149
 v39:=Tryz.zeroValue149
 t45:=Tryz.underlying168
 a45:=Tryz.isAgg168
 z45:=Tryz.sizeOf168
 v45:=Tryz.zeroValue168
 t46:=Tryz.underlying169
 a46:=Tryz.isAgg169
 z46:=Tryz.sizeOf169
 v46:=Tryz.zeroValue169
 t50:=Tryz.underlying173
 a50:=Tryz.isAgg173
 z50:=Tryz.sizeOf173
 v50:=Tryz.zeroValue173
 t53:=Tryz.underlying121
 a53:=Tryz.isAgg121
 z53:=Tryz.sizeOf121
 v53:=Tryz.zeroValue121
 t55:=Tryz.underlying164
 a55:=Tryz.isAgg164
 z55:=Tryz.sizeOf164
 v55:=Tryz.zeroValue164
 t66:=Tryz.underlying193
 a66:=Tryz.isAgg193
 z66:=Tryz.sizeOf193
 v66:=Tryz.zeroValue193
 t70:=Tryz.underlying197
 a70:=Tryz.isAgg197
 z70:=Tryz.sizeOf197
 v70:=Tryz.zeroValue197
 t76:=Tryz.underlying213
 a76:=Tryz.isAgg213
 z76:=Tryz.sizeOf213
 v76:=Tryz.zeroValue213
 t77:=Tryz.underlying214
 a77:=Tryz.isAgg214
 z77:=Tryz.sizeOf214
 v77:=Tryz.zeroValue214
set_option maxHeartbeats 1000000 in
theorem Tryz.nan(x:Int)(W:World):Calls Tryz.prog 93 #[.int .i64 x] W λe w'=>e=.returned (.bool false)/\w'=W:=by
 go_enter Tryz.func93,Tryz.ntmps93
 go_wp2
 all_goals (go_ret;exact⟨by simp,rfl⟩)
set_option maxHeartbeats 2000000 in
theorem Tryz.cmpInt(x y:Int)(W:World):Calls Tryz.prog 59 #[.int .i64 x,.int .i64 y] W λe w'=>e=.returned (.int .i64 (Lib.compareInt x y))/\w'=W:=by
 go_enter Tryz.func59,Tryz.ntmps59
 go_wp2_with (go_at_call 93;refine(Tryz.nan _ _).mono ?_;rintro e w' ⟨rfl,rfl⟩)
 all_goals (go_ret;refine⟨?_,rfl⟩;unfold Lib.compareInt;simp_all;try (rw[if_neg (by omega),if_neg (by omega)]))
set_option maxHeartbeats 2000000 in
theorem Tryz.cmpOr(r o cap:Nat)(x y v:Int)(hv:(if x=0 then y else x)=v)(W:World)(h0:W.cell? ⟨r,o,none⟩=some (.int .i64 x))(h1:W.cell? ⟨r,o+1,none⟩=some (.int .i64 y)):
  Calls Tryz.prog 65 #[.slice (some ⟨r,o,none⟩) 2 cap] W λe w'=>e=.returned (.int .i64 v)/\w'=W:=by
 subst hv
 go_enter Tryz.func65,Tryz.ntmps65
 go_wp2
 by_cases g:x=0
 ·subst g;by_cases h:y=0
  ·subst h;refine wp_loop_rounds 3 ?_;rw[rounds_succ]
   go_wp2
   rw[rounds_succ]
   go_wp2
   rw[rounds_succ]
   go_wp2
   go_ret
   exact⟨rfl,rfl⟩
  ·refine wp_loop_rounds 2 ?_;rw[rounds_succ]
   go_wp2
   rw[rounds_succ]
   go_wp2
   go_ret
   exact⟨rfl,rfl⟩
 ·refine wp_loop_rounds 1 ?_;rw[rounds_succ]
  go_wp2
  go_ret
  exact⟨by simp[g],rfl⟩
def CSt(W:World)(x0 g y0 e:Int)(w':World):Prop:=w'.cell? ⟨W.heap.size,0,none⟩=some (.int .i64 x0)/\w'.cell? ⟨W.heap.size,6,none⟩=some (.int .i64 g)/\w'.cell? ⟨W.heap.size+1,0,none⟩=some (.int .i64 y0)/\w'.cell? ⟨W.heap.size+1,6,none⟩=some (.int .i64 e)/\ ∃n os,w'=grow (W.drewN n) os
theorem PA{w:World}{a:Addr}{v:Value}(h:w.cell? a=some v)(o:Obj):(w.alloc o).cell? a=some v:=by rw[<-h];exact World.cell?_of_block (Below.heap_alloc w o a.block (block_lt_of_cell h))
theorem CSt.alloc{W w:World}{x0 g y0 e:Int}(h:CSt W x0 g y0 e w)(o:Obj):CSt W x0 g y0 e (w.alloc o):=by obtain⟨h1,h2,q,j,n,os,k⟩:=h;exact⟨PA h1 o,PA h2 o,PA q o,PA j o,n,_,by rw[alloc_eq_grow,k,grow_grow]⟩
set_option maxRecDepth 100000 in
set_option maxHeartbeats 4000000 in
theorem Tryz.closS(x y:Am.ET)(W:World):Calls Tryz.prog 30 #[.agg (Am.enT x).toArray,.agg (Am.enT y).toArray] W λe w'=>e=.returned (.int .i64 (Am.JgD x y))/\ ∃q K,w'=grow (W.drewN q) K:=by
 obtain⟨x0,X,x2,x3,x4,R,⟨k,J,⟨S,P⟩,E,w⟩,C⟩:=x;obtain⟨r,I,T,L,Q,N,⟨j,H,⟨M,O⟩,z,F⟩,D⟩:=y;unfold Am.JgD Am.enT;dsimp only;generalize hv:(if Lib.compareInt k j=0 then Lib.compareInt x0 r else Lib.compareInt k j)=v
 go_enter Tryz.func30,Tryz.ntmps30
 go_wp2
 have U: ∀o,o<13-> ∀(A B:Obj),((W.alloc A).alloc B).cell? ⟨W.heap.size,o,none⟩=(W.alloc A).cell? ⟨W.heap.size,o,none⟩:=λo _ A B=>World.cell?_of_block (Below.heap_alloc _ _ _ (by simp));obtain⟨h,g⟩: ∃h,h=(W.alloc (.cells #[.int .i64 x0,.int .i64 X,.int .i64 x2,.int .i64 x3,.int .i64 x4,.int .i64 R,.int .i64 k,.int .i64 J,.bool S,.string ⟨P.toArray⟩,.bool E,.string ⟨w.toArray⟩,.string ⟨C.toArray⟩] 52)).alloc (.cells #[.int .i64 r,.int .i64 I,.int .i64 T,.int .i64 L,.int .i64 Q,.int .i64 N,.int .i64 j,.int .i64 H,.bool M,.string ⟨O.toArray⟩,.bool z,.string ⟨F.toArray⟩,.string ⟨D.toArray⟩] 52):=⟨_,rfl⟩;have c0:h.cell? ⟨W.heap.size,0,none⟩=some (.int .i64 x0):=by rw[g];simp
 have c6:h.cell? ⟨W.heap.size,6,none⟩=some (.int .i64 k):=by rw[g];simp
 have Y:h.cell? ⟨W.heap.size+1,0,none⟩=some (.int .i64 r):=by rw[g];simp
 have V:h.cell? ⟨W.heap.size+1,6,none⟩=some (.int .i64 j):=by rw[g];simp
 have G:h=grow W #[(.cells #[.int .i64 x0,.int .i64 X,.int .i64 x2,.int .i64 x3,.int .i64 x4,.int .i64 R,.int .i64 k,.int .i64 J,.bool S,.string ⟨P.toArray⟩,.bool E,.string ⟨w.toArray⟩,.string ⟨C.toArray⟩] 52),(.cells #[.int .i64 r,.int .i64 I,.int .i64 T,.int .i64 L,.int .i64 Q,.int .i64 N,.int .i64 j,.int .i64 H,.bool M,.string ⟨O.toArray⟩,.bool z,.string ⟨F.toArray⟩,.string ⟨D.toArray⟩] 52)]:=by rw[g,alloc_eq_grow,alloc_eq_grow,grow_grow];rfl
 rw[<-g];clear g U;have hS:CSt W x0 k r j h.drew:=⟨c0,c6,Y,V,1,_,by rw[G];rfl⟩;clear G
 go_region_held3 (λw':World=>w'.cell? ⟨W.heap.size,0,none⟩=some (.int .i64 x0)/\w'.cell? ⟨W.heap.size,6,none⟩=some (.int .i64 k)/\w'.cell? ⟨W.heap.size+1,0,none⟩=some (.int .i64 r)/\w'.cell? ⟨W.heap.size+1,6,none⟩=some (.int .i64 j)/\ ∃n os,w'=grow (W.drewN n) os)
  (first|assumption|exact hS|exact CSt.alloc (by assumption) _)
  (first
   |(go_at_call 59;refine(Tryz.cmpInt _ _ _).mono ?_;rintro e w' ⟨rfl,rfl⟩)
   |(go_at_call 65;refine(Tryz.cmpOr _ _ _ (Lib.compareInt k j) (Lib.compareInt x0 r) v hv _ (by simp) (by simp)).mono ?_;rintro e w' ⟨rfl,rfl⟩))
 all_goals
  rename_i Z;obtain⟨_,_,_,_,n,os,hw⟩:=Z
  go_wp2
  go_ret
  exact⟨rfl,n,os,hw⟩
theorem Tryz.ltS{x y:Am.ET}(hx:Am.J7h x=true)(hy:Am.J7h y=true):ltOf Am.JgD x y=decide (Am.J6e x<Am.J6e y):=by
 unfold Am.J7h at hx hy;unfold ltOf Am.JgD Am.J6e Lib.compareInt;grind
theorem Tryz.swoS:SWO (ltOf Am.JgD) where
 irrefl x:=by unfold ltOf Am.JgD Lib.compareInt;grind
 trans x y z h1 h2:=by unfold ltOf Am.JgD Lib.compareInt at*;grind
 ntrans x y z h1 h2:=by unfold ltOf Am.JgD Lib.compareInt at*;grind
set_option maxHeartbeats 2000000 in
theorem Tryz.ins0(a:Option Addr)(cap:Nat)(g:Value)(w:World):Calls Tryz.prog 110 #[.slice a 0 cap,.int .i64 0,.int .i64 0,g] w λe w'=>e=.returned (.tuple #[])/\w'=w:=by
 go_enter Tryz.func110,Tryz.ntmps110
 go_wp2
 refine wp_loop_rounds 1 ?_;rw[rounds_succ]
 go_wp2
 go_end0
 exact⟨rfl,rfl⟩
set_option maxHeartbeats 2000000 in
theorem Tryz.pdq0(a:Option Addr)(cap:Nat)(g:Int)(h:Value)(w:World):Calls Tryz.prog 94 #[.slice a 0 cap,.int .i64 0,.int .i64 0,.int .i64 g,h] w λe w'=>e=.returned (.tuple #[])/\w'=w:=by
 go_enter Tryz.func94,Tryz.ntmps94
 go_wp2
 refine wp_loop_rounds 1 ?_;rw[rounds_succ]
 go_wp2_with (go_at_call 110;refine(Tryz.ins0 _ _ _ _).mono ?_;rintro e w' ⟨rfl,rfl⟩)
 (try simp only[Exit.inBlock,Exit.then]);refine bodyPost_ret (results_none rfl _ _ _) rfl ?_
 exact⟨rfl,rfl⟩
set_option maxHeartbeats 2000000 in
theorem Tryz.sort0(a:Option Addr)(cap:Nat)(h:Value)(w:World):Calls Tryz.prog 61 #[.slice a 0 cap,h] w λe w'=>e=.returned (.tuple #[])/\w'=w:=by
 have g:=Any.bits_Len (SlLaysF0.n15.bits (P:=Tryz.prog) (ρ:=Tryz.ρS) {Tryz.laysSort with}) 0 w (by omega) (by omega);change Calls Tryz.prog 95 _ _ _ at g
 go_enter Tryz.func61,Tryz.ntmps61
 go_wp2_with (first|(go_at_call 95;refine g.mono ?_;rintro e w' ⟨rfl,rfl⟩)|(go_at_call 94;refine(Tryz.pdq0 _ _ _ _ _).mono ?_;rintro e w' ⟨rfl,rfl⟩))
 go_end0
 exact⟨rfl,rfl⟩
theorem J7c(args:List Am.AV)(blks:List Am.Blk)(r:Am.Res)(h:Am.Jjr 13 30 (Am.JeN Am.J3 Am.J7h) (Am.cel Am.J3) Am.J6e args blks=some r):Am.J4v Tryz.prog 61 args blks r:=by
 have E: ∀args w,(callFunc 30 args).run Tryz.prog w=.ok (.enter 30 args) w:=enters_of Tryz.func30 (by kernel_rfl) rfl;refine Am.JFB (α:=Am.ET) (enc:=Am.enT) (N:=λx=>Am.J7h x=true) ⟨_,Tryz.func61,by decide,by decide⟩ (by decide) (λrow x h=>(Am.JqS h).1) (λrow x h=>(Am.JqS h).2) (λx=>rfl) (λx=>rfl)
  (λa cap w=>Tryz.sort0 a cap _ w)
  (λblk cap d w G F H o=>?_) args blks r h
 refine(AnyQ.slices_SortFunc Tryz.laysSort 13 Tryz.isAgg52 Tryz.sizeOf52 Am.enT (λ_=>rfl) (λx v D=>by simp[Am.enT]at D;rcases D with rfl|rfl|rfl|rfl|rfl|rfl|rfl|rfl|rfl|rfl|rfl|rfl|rfl<;>rfl) Am.JgD Tryz.swoS 30 #[] blk 0 cap d w E (λ_ _ _ _ x y=>Tryz.closS x y _) F H o).mono ?_;rintro e w' ⟨h1,g,n,os,k,z,J⟩;refine⟨h1,g,n,os,k,?_,J⟩;have C: ∀i,i<d.size->Am.J7h g[i]! =true:=λi hi=>by
  have o:=k.1;have h2:g[i]! ∈(g.extract 0 d.size).toList:=by rw[show d.size=g.size from o.symm,Array.extract_size,getElem!_pos g i (by omega)];exact Array.mem_toList_iff.2 (Array.getElem_mem _)
  have B:=k.2.2.mem_iff.1 h2;rw[Array.extract_size]at B;exact G _ (Array.mem_toList_iff.1 B)
 intro i j I K A;have q:=z i j I K A;rw[Tryz.ltS (C j A) (C i (by omega))]at q;exact q
end Go.Proofs
end
