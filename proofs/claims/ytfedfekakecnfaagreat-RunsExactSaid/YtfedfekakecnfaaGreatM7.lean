/-
  Parts of a proof.
-/
import Derived.Shelf.Strings.Builder1
import Derived.Shelf.Lays
import Derived.Test.YtfedfekakecnfaaGreatProg
import Derived.Lib.Agree
import Derived.KernelRfl
import Derived.WalkKit
import Derived.BigCall
import Derived.Shelf.SlSortCmp.WholeK
import Derived.Shelf.SlLaysF0
import Derived.Test.YtfedfekakecnfaaGreatChecked
import Derived.WalkSpells
import Derived.Tactics
import Derived.Tactics2
import Derived.Deep.RegionHeld3
import Derived.StillTactics
import Derived.Test.YtfedfekakecnfaaGreatM2
import Derived.Test.YtfedfekakecnfaaGreatM3
import Derived.Test.YtfedfekakecnfaaGreatM4
import Derived.Test.YtfedfekakecnfaaGreatM6
set_option linter.unusedSimpArgs false
set_option linter.unusedVariables false
section
namespace Go.Am
set_option maxRecDepth 20000
set_option maxHeartbeats 4000000
noncomputable section
theorem Zx{i g S l f}(hf: ∀p,rP p i=some (.fn (aL f)))(A:AE l)(q: ∀x,onO (gG g x) (λy=>lH (TG.of l) f y.1 y.2 (gX g))=S x):AE (bZ i g S::l):=λp=>⟨XL (hf p) (A p) q,A p⟩
theorem Wz(r x):onO (gG g_draw_Codes_Next x) (λy=>lH (TG.of (aG 21 g_draw_Codes_Next r::[])) mh y.1 y.2 (gX g_draw_Codes_Next))=EI r x:=by kernel_rfl
abbrev yy:=aG 21 g_draw_Codes_Next Ja::[]
theorem Wu:AE yy:=λp=>⟨YJ (fn:=mh) (l:=[]) rfl (ae0 p) rfl Wz 100,ae0 p⟩
abbrev xz:=aG 107 Rc tB::aG 126 Rj zR::aG 127 Xn AC::aG 88 Se pE::aG 10 JCP sS::aG 26 Xi AA::aG 36 Ya LO::aG 69 Yn WR::aG 70 Ws tG::aG 35 Wg Jy::yy
theorem S7:AE xz:=by
 iterate 10 refine wD (λ_=>rfl) ?_ λ_=>by kernel_rfl
 exact Wu
abbrev w6:=aG 30 S5 zQ::aG 65 Kj zA::aG 59 Xa qV::aG 93 Vp EE::aG 52 Mu qU::aG 89 Qc Ny::aG 109 V8 zV::aG 108 V4 lG::aG 105 Wa hQ::aG 106 Hn vO::xz
theorem Sa:AE w6:=by
 iterate 10 refine wD (λ_=>rfl) ?_ λ_=>by kernel_rfl
 exact S7
abbrev vg:=aG 19 Lb hO::bZ 53 V9 EG::bZ 51 Xk EH::aG 90 Ul wB::w6
theorem tg:AE vg:=by
 refine wD (λ_=>rfl) ?_ λ_=>by kernel_rfl
 iterate 2 refine Zx (λ_=>rfl) ?_ λ_=>by kernel_rfl
 refine wD (λ_=>rfl) ?_ λ_=>by kernel_rfl
 exact Sa
abbrev te:=aG 72 JAM fA::vg
theorem JAV:AE te:=λp=>⟨JJn rfl,tg p⟩
abbrev tc:=aG 39 JAq vL::te
theorem r8:AE tc:=by
 refine wD (λ_=>rfl) ?_ λ_=>by kernel_rfl
 exact JAV
abbrev vq:=aG 38 N3 mG::aG 73 JAY QW::aG 103 Xo WM::tc
theorem ul:AE vq:=by
 iterate 3 refine wD (λ_=>rfl) ?_ λ_=>by kernel_rfl
 exact r8
abbrev xw:=aG 40 Rf tD::aG 74 JAz fx::vq
theorem wh:AE xw:=by
 iterate 2 refine wD (λ_=>rfl) ?_ λ_=>by kernel_rfl
 exact ul
noncomputable def xN:PS:=λf=>if f=13 then some (wG cK DR)else none
theorem M8:rP xN 13=some (.prim (wG cK DR)):=rfl
def AD(l:List TE):Prop:=rI (AF (rP xN)) l
theorem eK{i g S l f}(hf:rP xN i=some (.fn (aL f)))(A:AD l)(q: ∀x,onO (gG g x) (λy=>lH (TG.of l) f y.1 y.2 (gX g))=S x)(hs:CM g=true:=by rfl):AD (aG i g S::l):=⟨lg hf A hs q,A⟩
theorem lw{i g S l f}(hf:rP xN i=some (.fn (aL f)))(A:AD l)(q: ∀x,onO (gG g x) (λy=>lH (TG.of l) f y.1 y.2 (gX g))=S x):AD (bZ i g S::l):=⟨XL hf A q,A⟩
abbrev vw:=aG 13 Nq DR::xw
theorem Mg:AD vw:=⟨JKz M8,wh xN⟩
abbrev s9:=aG 122 JA2 QX::aG 136 JAn KI::aG 135 JB3 KJ::aG 137 JAo Gi::aG 123 JAd QN::aG 138 Q5 VQ::aG 100 Ys WU::aG 125 Wm WK::aG 148 X0 LR::aG 9 N4 UZ::vw
theorem JAj:AD s9:=by
 iterate 10 refine eK rfl ?_ λ_=>by kernel_rfl
 exact Mg
abbrev vj:=aG 34 G8 vN::aG 33 L6 mF::aG 67 Pp dN::aG 68 K8 nM::aG 63 Pa Ju::aG 96 Me oY::aG 121 Pi kF::aG 134 Wt gR::aG 97 Rt kG::aG 98 JAK QM::s9
theorem G3:AD vj:=by
 iterate 10 refine eK rfl ?_ λ_=>by kernel_rfl
 exact JAj
abbrev uz:=aG 266 Ix qM::aG 265 Kl KO::aG 264 Ns DV::aG 249 Wh sY::aG 181 N1 zL::aG 163 Nw LB::aG 194 H4 kH::aG 193 Nd iE::aG 238 L3 oX::aG 147 Rs Jx::vj
theorem K5:AD uz:=by
 iterate 10 refine eK rfl ?_ λ_=>by kernel_rfl
 exact G3
abbrev wb:=aG 159 M6 JJ::aG 180 Oz zC::aG 225 Xl tH::aG 224 Mo mH::aG 267 JAy DE::aG 169 M0 eI::aG 201 Pm mK::aG 251 Ve pJ::aG 252 Oh nP::aG 223 P7 lB::uz
theorem P9:AD wb:=by
 iterate 10 refine eK rfl ?_ λ_=>by kernel_rfl
 exact K5
abbrev sx:=aG 258 JA0 pG::aG 257 Q1 DY::aG 213 Kg gE::aG 217 G1 qN::aG 260 JAJ QY::aG 215 JAA fI::aG 214 Ua mD::aG 24 U1 JF::aG 139 L0 UK::aG 151 Oc UO::wb
theorem Gx:AD sx:=by
 iterate 10 refine eK rfl ?_ λ_=>by kernel_rfl
 exact P9
abbrev x6:=aG 256 U8 LK::aG 212 Sg VG::aG 75 JAN JP::aG 176 JA4 iC::aG 184 K1 vM::aG 167 JBb oW::aG 154 Gb kI::aG 170 Kb lE::aG 216 Km fJ::aG 259 Sj qP::sx
theorem Tr:AD x6:=by
 iterate 10 refine eK rfl ?_ λ_=>by kernel_rfl
 exact Gx
abbrev tj:=aG 76 JBc yL::aG 153 Pc zF::aG 168 P1 qS::aG 143 Xg WN::aG 156 Lh RN::aG 174 JEM QE::aG 209 Mt KX::aG 175 Th VF::aG 210 Lx LA::aG 211 Q3 VB::x6
theorem Gs:AD tj:=by
 iterate 10 refine eK rfl ?_ λ_=>by kernel_rfl
 exact Tr
abbrev u2:=aG 207 Ip yU::aG 204 S6 qO::aG 253 Pv sV::aG 287 Py sW::aG 206 Pl mJ::aG 254 Un LL::aG 205 K4 KU::aG 171 Qk EC::aG 203 Ol zD::aG 202 On pB::tj
theorem F2:AD u2:=by
 iterate 10 refine eK rfl ?_ λ_=>by kernel_rfl
 exact Gs
abbrev xk:=aG 231 Qn vQ::aG 275 I7 RI::aG 274 Le RF::aG 232 Kc yQ::aG 142 Qe UH::aG 155 Mm vY::aG 173 Uo zU::aG 208 Na UM::aG 255 JB7 mA::aG 172 Ni UP::u2
theorem Ro:AD xk:=by
 iterate 10 refine eK rfl ?_ λ_=>by kernel_rfl
 exact F2
abbrev wn:=aG 236 Sx tA::aG 277 JEb yP::aG 235 JAG DI::aG 276 R3 VA::aG 237 Ih KR::aG 233 Uk WD::aG 234 My vV::aG 191 I0 sT::aG 189 Uy mE::aG 190 U0 zY::xk
theorem Rp:AD wn:=by
 iterate 10 refine eK rfl ?_ λ_=>by kernel_rfl
 exact Ro
abbrev s6:=aG 271 JAZ KH::aG 270 S1 VS::aG 291 Qa UN::aG 84 JBp eC::aG 183 Hl RK::aG 227 JAm QU::aG 161 Iq RQ::aG 188 Rz LF::aG 162 Ga jA::aG 192 G9 nN::wn
theorem JAl:AD s6:=by
 iterate 10 refine eK rfl ?_ λ_=>by kernel_rfl
 exact Rp
abbrev vd:=aG 186 Iu yW::aG 229 H3 yR::aG 272 Qg UF::aG 292 Lv RS::aG 295 Mn gr::aG 273 L8 zO::aG 187 Rw zS::aG 230 JBk yM::aG 185 Nt zN::aG 228 V3 zX::s6
theorem I3:AD vd:=by
 iterate 10 refine eK rfl ?_ λ_=>by kernel_rfl
 exact JAl
abbrev tw:=aG 199 JAb DJ::aG 250 Kw DN::aG 198 Vw zZ::aG 144 Q6 tC::aG 146 Ik RP::aG 160 Pg oZ::aG 182 Hw yX::aG 226 H0 yZ::aG 268 R2 VJ::aG 269 Gf RR::vd
theorem JA8:AD tw:=by
 iterate 10 refine eK rfl ?_ λ_=>by kernel_rfl
 exact I3
abbrev WI:=aG 284 U4 VV::aG 245 Vq WF::aG 282 N0 KY::aG 165 Ui WA::tw
theorem wl:AD WI:=by
 iterate 4 refine eK rfl ?_ λ_=>by kernel_rfl
 exact JA8
theorem Ru(r x):onO (gG g_ref09_closed x) (λy=>lH (TG.of (aG 285 g_ref09_closed r::WI)) g7 y.1 y.2 (gX g_ref09_closed))=DQ r x:=by kernel_rfl
abbrev wz:=aG 285 g_ref09_closed wc::WI
theorem Qu:AD wz:=⟨YJ (fn:=g7) (l:=WI) rfl (wl) rfl Ru 1100,wl⟩
abbrev xc:=aG 279 Ud VI::aG 240 Rq zP::aG 246 T6 zT::aG 283 JA3 QT::aG 248 Gz QO::aG 286 Ot UI::aG 242 Hy KQ::aG 243 Kt KP::aG 281 So vP::aG 247 Nh UT::wz
theorem Si:AD xc:=by
 iterate 10 refine eK rfl ?_ λ_=>by kernel_rfl
 exact Qu
abbrev uo:=aG 200 Ij pH::aG 164 JEQ QL::aG 197 Wf zW::aG 196 T2 wA::aG 195 JCR yO::aG 239 Vc tF::aG 278 Ti EB::aG 244 Gg KT::aG 241 P2 vU::aG 280 Ug WC::xc
theorem It:AD uo:=by
 iterate 10 refine eK rfl ?_ λ_=>by kernel_rfl
 exact Si
abbrev vu:=aG 178 P4 zG::aG 218 Kx RB::aG 219 O4 KZ::aG 44 Qt VM::aG 77 F7 KN::aG 42 P5 KW::aG 177 F0 RA::aG 141 X3 WS::aG 152 JD4 QB::aG 166 Lj RJ::uo
theorem Oi:AD vu:=by
 iterate 10 refine eK rfl ?_ λ_=>by kernel_rfl
 exact It
abbrev vz:=aG 263 Ng UL::aG 290 Ls RO::aG 294 H7 RL::aG 220 Kv QZ::aG 50 Qi VN::aG 86 Xj LP::aG 85 Yf mP::aG 87 X9 LM::aG 48 U9 LI::aG 157 Np UR::vu
theorem Lw:AD vz:=by
 iterate 10 refine eK rfl ?_ λ_=>by kernel_rfl
 exact Oi
abbrev yn:=aG 221 V1 WH::aG 262 I1 RD::aG 289 L1 sX::aG 261 P8 UJ::aG 288 Qx VE::aG 293 Sb VC::aG 296 Qq VO::aG 299 Xw LQ::aG 298 Yc qX::aG 297 Q9 VD::vz
theorem Vj:AD yn:=by
 iterate 10 refine eK rfl ?_ λ_=>by kernel_rfl
 exact Lw
abbrev sb:=aG 11 JDo yN::aG 32 X1 WO::aG 66 X7 WT::aG 99 Gt QP::aG 124 Yu WV::aG 140 Yo wC::aG 145 Yj WQ::aG 158 Ib RE::aG 179 K6 RC::aG 222 Om UV::yn
theorem JEO:AD sb:=by
 iterate 10 refine eK rfl ?_ λ_=>by kernel_rfl
 exact Vj
abbrev wu:=aG 56 Rh VL::aG 29 Q4 vR::aG 18 Hm mB::aG 28 Xv kJ::aG 12 JEi KB::aG 23 Kd lD::aG 27 P6 kE::aG 62 Vm jB::aG 64 Rn DZ::aG 31 U2 jC::sb
theorem Tg:AD wu:=by
 iterate 10 refine eK rfl ?_ λ_=>by kernel_rfl
 exact JEO
abbrev xn:=aG 58 R6 vS::wu
theorem Td:AD xn:=by
 refine eK rfl ?_ λ_=>by kernel_rfl
 exact Tg
abbrev Fv:=aG 60 J8p mq::xn
theorem J8c:AD Fv:=⟨JM6 rfl,Td⟩
abbrev Fy:=bZ 61 J7X LS::Fv
theorem J7Y:AD Fy:=⟨JKK (t:=t_api_Entry) (N:=J6X) rfl,J8c⟩
abbrev WZ:=bZ 128 J8Z J8B::bZ 149 J7y J7B::bZ 110 J6v J6D::bZ 53 V7 LJ::aG 55 J6j WY::aG 91 J6L WX::bZ 51 Xp WL::Fy
theorem Fs:AD WZ:=by
 iterate 4 refine lw rfl ?_ λ_=>by kernel_rfl
 iterate 2 refine eK rfl ?_ λ_=>by kernel_rfl
 refine lw rfl ?_ λ_=>by kernel_rfl
 exact J7Y
theorem J7Z(r x):onO (gG g_slices_symMergeCmpFunc_api_Entry__0 x) (λy=>lH (TG.of (bZ 111 g_slices_symMergeCmpFunc_api_Entry__0 r::WZ)) mp y.1 y.2 (gX g_slices_symMergeCmpFunc_api_Entry__0))=Fu r x:=by kernel_rfl
abbrev Fx:=bZ 111 g_slices_symMergeCmpFunc_api_Entry__0 J7W::WZ
theorem J81:AD Fx:=⟨D0 (fn:=mp) (l:=WZ) rfl (Fs) J7Z 100,Fs⟩
abbrev Xe:=aG 7 W1 WJ::aG 25 Nk vZ::aG 20 JAB DH::aG 54 J9b WW::aG 22 JAx vJ::bZ 57 J5F mr::bZ 92 J8N J8L::Fx
theorem Wp:AD Xe:=by
 iterate 5 refine eK rfl ?_ λ_=>by kernel_rfl
 iterate 2 refine lw rfl ?_ λ_=>by kernel_rfl
 exact J81
end
end Go.Am
end
section
namespace Go.Proofs
open Go.Shelf Go.RowKit
def Tryz.ρA:Ren where
 f:=fun
  |99=>79
  |166=>37
  |169=>41
  |206=>104
  |240=>71
  |276=>101
  |167=>102
  |n=>n
 t:=fun
  |9=>9
  |3=>3
  |4=>4
  |20=>20
  |0=>0
  |46=>149
  |5=>5
  |72=>87
  |76=>90
  |51=>121
  |53=>164
  |70=>85
  |37=>22
  |75=>89
  |127=>126
  |164=>161
  |80=>94
  |n=>n
 g:=λn=>n
theorem Tryz.laysWS:Lays.n166 Tryz.prog Tryz.ρA where
 mixed:=by kernel_rfl
 f166:=by kernel_rfl
 f240:=by kernel_rfl
 f276:=by kernel_rfl
 t0:=Tryz.underlying0
 a0:=Tryz.isAgg0
 z0:=Tryz.sizeOf0
 v0:=Tryz.zeroValue0
 t3:=Tryz.underlying3
 a3:=Tryz.isAgg3
 z3:=Tryz.sizeOf3
 v3:=Tryz.zeroValue3
 t4:=Tryz.underlying4
 a4:=Tryz.isAgg4
 z4:=Tryz.sizeOf4
 v4:=Tryz.zeroValue4
 t9:=Tryz.underlying9
 a9:=Tryz.isAgg9
 z9:=Tryz.sizeOf9
 v9:=Tryz.zeroValue9
 t20:=Tryz.underlying20
 a20:=Tryz.isAgg20
 z20:=Tryz.sizeOf20
 v20:=Tryz.zeroValue20
 t37:=Tryz.underlying22
 a37:=Tryz.isAgg22
 z37:=Tryz.sizeOf22
 v37:=Tryz.zeroValue22
 t70:=Tryz.underlying85
 a70:=Tryz.isAgg85
 z70:=Tryz.sizeOf85
 v70:=Tryz.zeroValue85
 t72:=Tryz.underlying87
 a72:=Tryz.isAgg87
 z72:=Tryz.sizeOf87
 v72:=Tryz.zeroValue87
 t75:=Tryz.underlying89
 a75:=Tryz.isAgg89
 z75:=Tryz.sizeOf89
 v75:=Tryz.zeroValue89
 t164:=Tryz.underlying161
 a164:=Tryz.isAgg161
 z164:=Tryz.sizeOf161
 v164:=Tryz.zeroValue161
theorem Tryz.laysST:Lays.n169 Tryz.prog Tryz.ρA where
 mixed:=by kernel_rfl
 f169:=by kernel_rfl
 t0:=Tryz.underlying0
 a0:=Tryz.isAgg0
 z0:=Tryz.sizeOf0
 v0:=Tryz.zeroValue0
 t3:=Tryz.underlying3
 a3:=Tryz.isAgg3
 z3:=Tryz.sizeOf3
 v3:=Tryz.zeroValue3
 t9:=Tryz.underlying9
 a9:=Tryz.isAgg9
 z9:=Tryz.sizeOf9
 v9:=Tryz.zeroValue9
 t37:=Tryz.underlying22
 a37:=Tryz.isAgg22
 z37:=Tryz.sizeOf22
 v37:=Tryz.zeroValue22
 t70:=Tryz.underlying85
 a70:=Tryz.isAgg85
 z70:=Tryz.sizeOf85
 v70:=Tryz.zeroValue85
 t72:=Tryz.underlying87
 a72:=Tryz.isAgg87
 z72:=Tryz.sizeOf87
 v72:=Tryz.zeroValue87
 t127:=Tryz.underlying126
 a127:=Tryz.isAgg126
 z127:=Tryz.sizeOf126
 v127:=Tryz.zeroValue126
theorem Tryz.laysWB:Lays.n167 Tryz.prog Tryz.ρA where
 mixed:=by kernel_rfl
 f167:=by kernel_rfl
 f240:=by kernel_rfl
 f276:=by kernel_rfl
 t0:=Tryz.underlying0
 a0:=Tryz.isAgg0
 z0:=Tryz.sizeOf0
 v0:=Tryz.zeroValue0
 t4:=Tryz.underlying4
 a4:=Tryz.isAgg4
 z4:=Tryz.sizeOf4
 v4:=Tryz.zeroValue4
 t5:=Tryz.underlying5
 a5:=Tryz.isAgg5
 z5:=Tryz.sizeOf5
 v5:=Tryz.zeroValue5
 t9:=Tryz.underlying9
 a9:=Tryz.isAgg9
 z9:=Tryz.sizeOf9
 v9:=Tryz.zeroValue9
 t20:=Tryz.underlying20
 a20:=Tryz.isAgg20
 z20:=Tryz.sizeOf20
 v20:=Tryz.zeroValue20
 t37:=Tryz.underlying22
 a37:=Tryz.isAgg22
 z37:=Tryz.sizeOf22
 v37:=Tryz.zeroValue22
 t70:=Tryz.underlying85
 a70:=Tryz.isAgg85
 z70:=Tryz.sizeOf85
 v70:=Tryz.zeroValue85
 t72:=Tryz.underlying87
 a72:=Tryz.isAgg87
 z72:=Tryz.sizeOf87
 v72:=Tryz.zeroValue87
 t75:=Tryz.underlying89
 a75:=Tryz.isAgg89
 z75:=Tryz.sizeOf89
 v75:=Tryz.zeroValue89
 t164:=Tryz.underlying161
 a164:=Tryz.isAgg161
 z164:=Tryz.sizeOf161
 v164:=Tryz.zeroValue161
theorem Tryz.extraRep:Builder.Extra Tryz.prog Tryz.ρA where
 sizeBuilder:=by kernel_rfl
 liesBuilder:=by kernel_rfl
 t5:=Tryz.underlying5
 a5:=Tryz.isAgg5
 z5:=Tryz.sizeOf5
 v5:=Tryz.zeroValue5
 infoByte:=by kernel_rfl
 cellsByte:=by kernel_rfl
 sizeByte:=by kernel_rfl
 neB5:=by decide
theorem Tryz.WriteByte(B b:Nat)(g:List Value)(c:Int)(w:World)(h:Lib.IsBuilder 87 5 B b g w)(hlen:g.length+1<=140737488355328)(j:B<=w.heap.size):
  Calls Tryz.prog 102 #[.pointer (some ⟨b,0,none⟩),.int .u8 c] w λe w'=>e=.returned .nilIface/\(Lib.BuilderAt 87 5 B b (.pointer (some ⟨b,0,none⟩)) (g++[.int .u8 c]) w'/\Below B w w'):=
 Any.Builder_WriteByte Tryz.laysWB Tryz.extraRep B b g c w h hlen j
theorem Tryz.WriteString(B b:Nat)(g:List Value)(s:ByteArray)(w:World)(h:Lib.IsBuilder 87 5 B b g w)(hlen:g.length+s.size<=140737488355328)(j:B<=w.heap.size):
  Calls Tryz.prog 37 #[.pointer (some ⟨b,0,none⟩),.string s] w λe w'=>e=.returned (.tuple #[.int .i64 s.size,.nilIface])/\(Lib.BuilderAt 87 5 B b (.pointer (some ⟨b,0,none⟩)) (g++Lib.strCells s) w'/\Below B w w'):=
 Any.Builder_WriteString Tryz.laysWS Tryz.extraRep B b g s w h hlen j
theorem Tryz.String(B b:Nat)(l:List UInt8)(w:World)(h:Lib.IsBuilder 87 5 B b (Lib.byteCells l) w)(g:B<=w.heap.size):
  Calls Tryz.prog 41 #[.pointer (some ⟨b,0,none⟩)] w λe w'=>e=.returned (.string ⟨l.toArray⟩)/\Below B w w':=
 Any.Builder_String_any Tryz.laysST Tryz.extraRep B b l w h g
theorem Rx(l:List UInt8)(n:Int)(k:Nat):Lib.byteCells (l++Am.J9e n k)++[.int .u8 (Am.JaP n k)]=Lib.byteCells (l++Am.J9e n (k+1)):=by
 rw[Am.JGn,<-List.append_assoc,Lib.byteCells_append (l++Am.J9e n k)]
 congr 1
 show [Value.int .u8 _]=[Value.int .u8 ((UInt8.ofNat (Am.JaP n k).toNat).toNat:Int)];rw[Am.JEK]
set_option maxHeartbeats 6400000 in
set_option maxRecDepth 100000 in
theorem Tryz.put(s:ByteArray)(n:Int)(k:Nat)(hk:1<=k)(C:k<=8)(hs:s.size+8<=140737488355328)(w:World):
  Calls Tryz.prog 72 #[.string s,.int .i64 n,.int .i64 k] w λe w'=>e=.returned (.string ⟨(s.data.toList++Am.J9e n k).toArray⟩)/\Below w.heap.size w w':=by
 have D:s.data.toList.length=s.size:=(Lib.size_eq s).symm;have v:Lib.IsBuilder 87 5 w.heap.size w.heap.size [] (w.alloc (.cells #[.pointer none,.slice none 0 0] 87)):=Lib.fresh_isBuilder 87 5 w;have h:Below w.heap.size w (w.alloc (.cells #[.pointer none,.slice none 0 0] 87)):=(Below.refl _ w).alloc (Nat.le_refl _) _
 go_enter Tryz.func72,Tryz.ntmps72
 go_wp2_with (go_at_call 37;refine(Tryz.WriteString w.heap.size w.heap.size [] s _ v (by simp;omega) h.size).mono ?_)
 rintro e y ⟨rfl,h1,b1⟩;have q:Lib.IsBuilder 87 5 w.heap.size w.heap.size (Lib.byteCells (s.data.toList++Am.J9e n 0)) y:=by rw[List.nil_append,Lib.strCells_eq]at h1;have x:Am.J9e n 0=[]:=rfl;rw[x,List.append_nil];exact Or.inr h1
 have r:=h.trans b1;clear h1 b1 v h
 go_wp2
 go_loopw [19] (λi wr=> ∃j:Nat,j<=k/\i=.int .i64 j/\Lib.IsBuilder 87 5 w.heap.size w.heap.size (Lib.byteCells (s.data.toList++Am.J9e n j)) wr/\Below w.heap.size w wr)
  (λi _=>k-(intOf i).toNat)
 case atStart=>exact⟨0,Nat.zero_le _,rfl,q,r⟩
 case round=>
  obtain⟨j,E,rfl,o,g⟩:=hrel;by_cases B:j<k
  ·go_wp2_with (go_at_call 102;refine(Tryz.WriteByte w.heap.size w.heap.size _ _ _ o (by rw[Lib.byteCells_length,List.length_append,Am.JkV];omega) g.size).mono ?_;rintro e z ⟨rfl,h2,b2⟩)
   have A:Am.JaP n j=IntKind.u64.wrap n/2^(8*j)%256:=by show((IntKind.wrap .u64 n).fdiv (2^(8*j)))%256=_;rw[Int.fdiv_eq_ediv_of_nonneg _ (Int.le_of_lt (Int.pow_pos (by decide)))]
   rw[<-A,Rx]at h2;exact⟨⟨j+1,by omega,by simp,Or.inr h2,g.trans b2⟩,by simp[intOf];omega⟩
  ·obtain rfl:j=k:=by omega
   go_wp2_with (go_at_call 41;refine(Tryz.String w.heap.size w.heap.size _ _ o g.size).mono ?_;rintro e z ⟨rfl,b2⟩)
   go_wp2
   go_ret
   exact⟨rfl,g.trans b2⟩
theorem Tryz.put_out(s:ByteArray)(n k:Int)(hk:k<1\/8<k)(w:World):
  Calls Tryz.prog 72 #[.string s,.int .i64 n,.int .i64 k] w λe w'=>e=.returned (.string s)/\Below w.heap.size w w':=by
 go_enter Tryz.func72,Tryz.ntmps72
 go_wp2
 all_goals (go_ret;exact⟨rfl,Below.refl _ _⟩)
theorem JIM(l:List UInt8):(⟨l.toArray⟩:ByteArray).data.toList=l:=rfl
theorem Hh(args:List Am.AV)(blks:List Am.Blk)(r:Am.Res)(h:Am.JDf args blks=some r):Am.J3W Tryz.prog 72 args blks r:=by
 unfold Am.JDf at h;split at h;rename_i bl l n k;obtain⟨x,e,rfl⟩:=Option.map_eq_some_iff.1 h;unfold Am.Jld at e;split at e;rename_i hc;injection e with e;subst e;exact Am.JCG (xs:=[.s l,.i .i64 n,.i .i64 k]) (vs:=[.string ⟨l.toArray⟩,.int .i64 n,.int .i64 k]) (v:=.string ⟨l.toArray⟩) ⟨_,Tryz.func72,by decide,by decide⟩ rfl rfl λw=>Tryz.put_out _ n k hc w;rename_i hc;split at e;rename_i h2;injection e with e;subst e;refine Am.JCG (xs:=[.s l,.i .i64 n,.i .i64 k]) (vs:=[.string ⟨l.toArray⟩,.int .i64 n,.int .i64 k]) (v:=.string ⟨(l++Am.J9e n k.toNat).toArray⟩) ⟨_,Tryz.func72,by decide,by decide⟩ rfl rfl λw=>?_;have g:=Tryz.put ⟨l.toArray⟩ n k.toNat (by omega) (by omega) (by rw[Lib.size_eq];exact h2) w;rw[JIM,show((k.toNat:Nat):Int)=k by omega]at g;exact g;cases e;cases h
end Go.Proofs
end
section
namespace Go.Proofs
open Go.Shelf Go.RowKit Go.Lib Go.Sort
def Tryz.ρS:Ren where
 f:=fun
  |6=>61
  |14=>94
  |15=>95
  |20=>110
  |21=>112
  |22=>113
  |23=>114
  |24=>115
  |25=>116
  |26=>117
  |27=>118
  |28=>119
  |29=>120
  |46=>129
  |47=>130
  |48=>131
  |49=>132
  |50=>133
  |57=>150
  |n=>n
 t:=fun
  |0=>0
  |3=>3
  |4=>4
  |5=>5
  |9=>9
  |22=>26
  |24=>52
  |25=>61
  |39=>149
  |45=>168
  |46=>169
  |50=>173
  |53=>121
  |55=>164
  |66=>193
  |70=>197
  |76=>213
  |77=>214
  |n=>n
 g:=λn=>n
set_option maxRecDepth 100000 in
theorem Tryz.laysSort:SlLaysF0.n6 Tryz.prog Tryz.ρS where
 mixed:=by kernel_rfl
 f6:=⟨"slices.SortFunc[[]pagemend/api.Entry,pagemend/api.Entry]",by decide,by kernel_rfl⟩
 f14:=⟨"slices.pdqsortCmpFunc[pagemend/api.Entry]",by decide,by kernel_rfl⟩
 f15:=by kernel_rfl
 f20:=⟨"slices.insertionSortCmpFunc[pagemend/api.Entry]",by decide,by kernel_rfl⟩
 f21:=⟨"slices.heapSortCmpFunc[pagemend/api.Entry]",by decide,by kernel_rfl⟩
 f22:=⟨"slices.breakPatternsCmpFunc[pagemend/api.Entry]",by decide,by kernel_rfl⟩
 f23:=⟨"slices.choosePivotCmpFunc[pagemend/api.Entry]",by decide,by kernel_rfl⟩
 f24:=⟨"slices.reverseRangeCmpFunc[pagemend/api.Entry]",by decide,by kernel_rfl⟩
 f25:=⟨"slices.partialInsertionSortCmpFunc[pagemend/api.Entry]",by decide,by kernel_rfl⟩
 f26:=⟨"slices.partitionEqualCmpFunc[pagemend/api.Entry]",by decide,by kernel_rfl⟩
 f27:=⟨"slices.partitionCmpFunc[pagemend/api.Entry]",by decide,by kernel_rfl⟩
 f28:=by kernel_rfl
 f29:=by kernel_rfl
 f46:=⟨"slices.siftDownCmpFunc[pagemend/api.Entry]",by decide,by kernel_rfl⟩
 f47:=by kernel_rfl
 f48:=by kernel_rfl
 f49:=⟨"slices.medianAdjacentCmpFunc[pagemend/api.Entry]",by decide,by kernel_rfl⟩
 f50:=⟨"slices.medianCmpFunc[pagemend/api.Entry]",by decide,by kernel_rfl⟩
 f57:=⟨"slices.order2CmpFunc[pagemend/api.Entry]",by decide,by kernel_rfl⟩
 t0:=Tryz.underlying0
 a0:=Tryz.isAgg0
 z0:=Tryz.sizeOf0
 v0:=Tryz.zeroValue0
 t3:=Tryz.underlying3
 a3:=Tryz.isAgg3
 z3:=Tryz.sizeOf3
 v3:=Tryz.zeroValue3
 t4:=Tryz.underlying4
 a4:=Tryz.isAgg4
 z4:=Tryz.sizeOf4
 v4:=Tryz.zeroValue4
 t5:=Tryz.underlying5
 a5:=Tryz.isAgg5
 z5:=Tryz.sizeOf5
 v5:=Tryz.zeroValue5
 t9:=Tryz.underlying9
 a9:=Tryz.isAgg9
 z9:=Tryz.sizeOf9
 v9:=Tryz.zeroValue9
 t22:=Tryz.underlying26
 a22:=Tryz.isAgg26
 z22:=Tryz.sizeOf26
 v22:=Tryz.zeroValue26
 t25:=Tryz.underlying61
 a25:=Tryz.isAgg61
 z25:=Tryz.sizeOf61
 v25:=Tryz.zeroValue61
 t39:=Tryz.underlying149
 a39:=Tryz.isAgg149
 z39:=Tryz.sizeOf149
 v39:=Tryz.zeroValue149
 t45:=Tryz.underlying168
 a45:=Tryz.isAgg168
 z45:=Tryz.sizeOf168
 v45:=Tryz.zeroValue168
 t46:=Tryz.underlying169
 a46:=Tryz.isAgg169
 z46:=Tryz.sizeOf169
 v46:=Tryz.zeroValue169
 t50:=Tryz.underlying173
 a50:=Tryz.isAgg173
 z50:=Tryz.sizeOf173
 v50:=Tryz.zeroValue173
 t53:=Tryz.underlying121
 a53:=Tryz.isAgg121
 z53:=Tryz.sizeOf121
 v53:=Tryz.zeroValue121
 t55:=Tryz.underlying164
 a55:=Tryz.isAgg164
 z55:=Tryz.sizeOf164
 v55:=Tryz.zeroValue164
 t66:=Tryz.underlying193
 a66:=Tryz.isAgg193
 z66:=Tryz.sizeOf193
 v66:=Tryz.zeroValue193
 t70:=Tryz.underlying197
 a70:=Tryz.isAgg197
 z70:=Tryz.sizeOf197
 v70:=Tryz.zeroValue197
 t76:=Tryz.underlying213
 a76:=Tryz.isAgg213
 z76:=Tryz.sizeOf213
 v76:=Tryz.zeroValue213
 t77:=Tryz.underlying214
 a77:=Tryz.isAgg214
 z77:=Tryz.sizeOf214
 v77:=Tryz.zeroValue214
set_option maxHeartbeats 1000000 in
theorem Tryz.nan(x:Int)(W:World):Calls Tryz.prog 93 #[.int .i64 x] W λe w'=>e=.returned (.bool false)/\w'=W:=by
 go_enter Tryz.func93,Tryz.ntmps93
 go_wp2
 all_goals (go_ret;exact⟨by simp,rfl⟩)
set_option maxHeartbeats 2000000 in
theorem Tryz.cmpInt(x y:Int)(W:World):Calls Tryz.prog 59 #[.int .i64 x,.int .i64 y] W λe w'=>e=.returned (.int .i64 (Lib.compareInt x y))/\w'=W:=by
 go_enter Tryz.func59,Tryz.ntmps59
 go_wp2_with (go_at_call 93;refine(Tryz.nan _ _).mono ?_;rintro e w' ⟨rfl,rfl⟩)
 all_goals (go_ret;refine⟨?_,rfl⟩;unfold Lib.compareInt;simp_all;try (rw[if_neg (by omega),if_neg (by omega)]))
set_option maxHeartbeats 2000000 in
theorem Tryz.cmpOr(r o cap:Nat)(x y v:Int)(hv:(if x=0 then y else x)=v)(W:World)(h0:W.cell? ⟨r,o,none⟩=some (.int .i64 x))(h1:W.cell? ⟨r,o+1,none⟩=some (.int .i64 y)):
  Calls Tryz.prog 65 #[.slice (some ⟨r,o,none⟩) 2 cap] W λe w'=>e=.returned (.int .i64 v)/\w'=W:=by
 subst hv
 go_enter Tryz.func65,Tryz.ntmps65
 go_wp2
 by_cases g:x=0
 ·subst g;by_cases h:y=0
  ·subst h;refine wp_loop_rounds 3 ?_;rw[rounds_succ]
   go_wp2
   rw[rounds_succ]
   go_wp2
   rw[rounds_succ]
   go_wp2
   go_ret
   exact⟨rfl,rfl⟩
  ·refine wp_loop_rounds 2 ?_;rw[rounds_succ]
   go_wp2
   rw[rounds_succ]
   go_wp2
   go_ret
   exact⟨rfl,rfl⟩
 ·refine wp_loop_rounds 1 ?_;rw[rounds_succ]
  go_wp2
  go_ret
  exact⟨by simp[g],rfl⟩
def CSt(W:World)(x0 g y0 e:Int)(w':World):Prop:=w'.cell? ⟨W.heap.size,0,none⟩=some (.int .i64 x0)/\w'.cell? ⟨W.heap.size,6,none⟩=some (.int .i64 g)/\w'.cell? ⟨W.heap.size+1,0,none⟩=some (.int .i64 y0)/\w'.cell? ⟨W.heap.size+1,6,none⟩=some (.int .i64 e)/\ ∃n os,w'=grow (W.drewN n) os
theorem QD{w:World}{a:Addr}{v:Value}(h:w.cell? a=some v)(o:Obj):(w.alloc o).cell? a=some v:=by rw[<-h];exact World.cell?_of_block (Below.heap_alloc w o a.block (block_lt_of_cell h))
theorem CSt.alloc{W w:World}{x0 g y0 e:Int}(h:CSt W x0 g y0 e w)(o:Obj):CSt W x0 g y0 e (w.alloc o):=by obtain⟨h1,h2,q,j,n,os,k⟩:=h;exact⟨QD h1 o,QD h2 o,QD q o,QD j o,n,_,by rw[alloc_eq_grow,k,grow_grow]⟩
set_option maxRecDepth 100000 in
set_option maxHeartbeats 4000000 in
theorem Tryz.closS(x y:Am.ET)(W:World):Calls Tryz.prog 30 #[.agg (Am.enT x).toArray,.agg (Am.enT y).toArray] W λe w'=>e=.returned (.int .i64 (Am.Jh5 x y))/\ ∃q K,w'=grow (W.drewN q) K:=by
 obtain⟨x0,X,x2,x3,x4,R,⟨k,J,⟨S,P⟩,E,w⟩,C⟩:=x;obtain⟨r,I,T,L,Q,N,⟨j,H,⟨M,O⟩,z,F⟩,D⟩:=y;unfold Am.Jh5 Am.enT;dsimp only;generalize hv:(if Lib.compareInt k j=0 then Lib.compareInt x0 r else Lib.compareInt k j)=v
 go_enter Tryz.func30,Tryz.ntmps30
 go_wp2
 have U: ∀o,o<13-> ∀(A B:Obj),((W.alloc A).alloc B).cell? ⟨W.heap.size,o,none⟩=(W.alloc A).cell? ⟨W.heap.size,o,none⟩:=λo _ A B=>World.cell?_of_block (Below.heap_alloc _ _ _ (by simp));obtain⟨h,g⟩: ∃h,h=(W.alloc (.cells #[.int .i64 x0,.int .i64 X,.int .i64 x2,.int .i64 x3,.int .i64 x4,.int .i64 R,.int .i64 k,.int .i64 J,.bool S,.string ⟨P.toArray⟩,.bool E,.string ⟨w.toArray⟩,.string ⟨C.toArray⟩] 52)).alloc (.cells #[.int .i64 r,.int .i64 I,.int .i64 T,.int .i64 L,.int .i64 Q,.int .i64 N,.int .i64 j,.int .i64 H,.bool M,.string ⟨O.toArray⟩,.bool z,.string ⟨F.toArray⟩,.string ⟨D.toArray⟩] 52):=⟨_,rfl⟩;have c0:h.cell? ⟨W.heap.size,0,none⟩=some (.int .i64 x0):=by rw[g];simp
 have c6:h.cell? ⟨W.heap.size,6,none⟩=some (.int .i64 k):=by rw[g];simp
 have Y:h.cell? ⟨W.heap.size+1,0,none⟩=some (.int .i64 r):=by rw[g];simp
 have V:h.cell? ⟨W.heap.size+1,6,none⟩=some (.int .i64 j):=by rw[g];simp
 have G:h=grow W #[(.cells #[.int .i64 x0,.int .i64 X,.int .i64 x2,.int .i64 x3,.int .i64 x4,.int .i64 R,.int .i64 k,.int .i64 J,.bool S,.string ⟨P.toArray⟩,.bool E,.string ⟨w.toArray⟩,.string ⟨C.toArray⟩] 52),(.cells #[.int .i64 r,.int .i64 I,.int .i64 T,.int .i64 L,.int .i64 Q,.int .i64 N,.int .i64 j,.int .i64 H,.bool M,.string ⟨O.toArray⟩,.bool z,.string ⟨F.toArray⟩,.string ⟨D.toArray⟩] 52)]:=by rw[g,alloc_eq_grow,alloc_eq_grow,grow_grow];rfl
 rw[<-g];clear g U;have Z:CSt W x0 k r j h.drew:=⟨c0,c6,Y,V,1,_,by rw[G];rfl⟩;clear G
 go_region_held3 (λw':World=>w'.cell? ⟨W.heap.size,0,none⟩=some (.int .i64 x0)/\w'.cell? ⟨W.heap.size,6,none⟩=some (.int .i64 k)/\w'.cell? ⟨W.heap.size+1,0,none⟩=some (.int .i64 r)/\w'.cell? ⟨W.heap.size+1,6,none⟩=some (.int .i64 j)/\ ∃n os,w'=grow (W.drewN n) os)
  (first|assumption|exact Z|exact CSt.alloc (by assumption) _)
  (first
   |(go_at_call 59;refine(Tryz.cmpInt _ _ _).mono ?_;rintro e w' ⟨rfl,rfl⟩)
   |(go_at_call 65;refine(Tryz.cmpOr _ _ _ (Lib.compareInt k j) (Lib.compareInt x0 r) v hv _ (by simp) (by simp)).mono ?_;rintro e w' ⟨rfl,rfl⟩))
 all_goals
  rename_i hh;obtain⟨_,_,_,_,n,os,hw⟩:=hh
  go_wp2
  go_ret
  exact⟨rfl,n,os,hw⟩
theorem Tryz.ltS{x y:Am.ET}(hx:Am.J6X x=true)(hy:Am.J6X y=true):ltOf Am.Jh5 x y=decide (Am.J6f x<Am.J6f y):=by
 unfold Am.J6X at hx hy;unfold ltOf Am.Jh5 Am.J6f Lib.compareInt;grind
theorem Tryz.swoS:SWO (ltOf Am.Jh5) where
 irrefl x:=by unfold ltOf Am.Jh5 Lib.compareInt;grind
 trans x y z h1 h2:=by unfold ltOf Am.Jh5 Lib.compareInt at*;grind
 ntrans x y z h1 h2:=by unfold ltOf Am.Jh5 Lib.compareInt at*;grind
set_option maxHeartbeats 2000000 in
theorem Tryz.ins0(a:Option Addr)(cap:Nat)(g:Value)(w:World):Calls Tryz.prog 110 #[.slice a 0 cap,.int .i64 0,.int .i64 0,g] w λe w'=>e=.returned (.tuple #[])/\w'=w:=by
 go_enter Tryz.func110,Tryz.ntmps110
 go_wp2
 refine wp_loop_rounds 1 ?_;rw[rounds_succ]
 go_wp2
 go_end0
 exact⟨rfl,rfl⟩
set_option maxHeartbeats 2000000 in
theorem Tryz.pdq0(a:Option Addr)(cap:Nat)(g:Int)(h:Value)(w:World):Calls Tryz.prog 94 #[.slice a 0 cap,.int .i64 0,.int .i64 0,.int .i64 g,h] w λe w'=>e=.returned (.tuple #[])/\w'=w:=by
 go_enter Tryz.func94,Tryz.ntmps94
 go_wp2
 refine wp_loop_rounds 1 ?_;rw[rounds_succ]
 go_wp2_with (go_at_call 110;refine(Tryz.ins0 _ _ _ _).mono ?_;rintro e w' ⟨rfl,rfl⟩)
 (try simp only[Exit.inBlock,Exit.then]);refine bodyPost_ret (results_none rfl _ _ _) rfl ?_
 exact⟨rfl,rfl⟩
set_option maxHeartbeats 2000000 in
theorem Tryz.sort0(a:Option Addr)(cap:Nat)(h:Value)(w:World):Calls Tryz.prog 61 #[.slice a 0 cap,h] w λe w'=>e=.returned (.tuple #[])/\w'=w:=by
 have g:=Any.bits_Len (SlLaysF0.n15.bits (P:=Tryz.prog) (ρ:=Tryz.ρS) {Tryz.laysSort with}) 0 w (by omega) (by omega);change Calls Tryz.prog 95 _ _ _ at g
 go_enter Tryz.func61,Tryz.ntmps61
 go_wp2_with (first|(go_at_call 95;refine g.mono ?_;rintro e w' ⟨rfl,rfl⟩)|(go_at_call 94;refine(Tryz.pdq0 _ _ _ _ _).mono ?_;rintro e w' ⟨rfl,rfl⟩))
 go_end0
 exact⟨rfl,rfl⟩
theorem J7t(args:List Am.AV)(blks:List Am.Blk)(r:Am.Res)(h:Am.Jkc 13 30 (Am.Jfj Am.t_api_Entry Am.J6X) (Am.cel Am.t_api_Entry) Am.J6f args blks=some r):Am.J3W Tryz.prog 61 args blks r:=by
 have E: ∀args w,(callFunc 30 args).run Tryz.prog w=.ok (.enter 30 args) w:=enters_of Tryz.func30 (by kernel_rfl) rfl;refine Am.JGZ (α:=Am.ET) (enc:=Am.enT) (N:=λx=>Am.J6X x=true) ⟨_,Tryz.func61,by decide,by decide⟩ (by decide) (λrow x h=>(Am.JrU h).1) (λrow x h=>(Am.JrU h).2) (λx=>rfl) (λx=>rfl)
  (λa cap w=>Tryz.sort0 a cap _ w)
  (λblk cap d w G F H o=>?_) args blks r h
 refine(AnyQ.slices_SortFunc Tryz.laysSort 13 Tryz.isAgg52 Tryz.sizeOf52 Am.enT (λ_=>rfl) (λx v D=>by simp[Am.enT]at D;rcases D with rfl|rfl|rfl|rfl|rfl|rfl|rfl|rfl|rfl|rfl|rfl|rfl|rfl<;>rfl) Am.Jh5 Tryz.swoS 30 #[] blk 0 cap d w E (λ_ _ _ _ x y=>Tryz.closS x y _) F H o).mono ?_;rintro e w' ⟨h1,g,n,os,k,z,J⟩;refine⟨h1,g,n,os,k,?_,J⟩;have C: ∀i,i<d.size->Am.J6X g[i]! =true:=λi hi=>by
  have o:=k.1;have h2:g[i]! ∈(g.extract 0 d.size).toList:=by rw[show d.size=g.size from o.symm,Array.extract_size,getElem!_pos g i (by omega)];exact Array.mem_toList_iff.2 (Array.getElem_mem _)
  have B:=k.2.2.mem_iff.1 h2;rw[Array.extract_size]at B;exact G _ (Array.mem_toList_iff.1 B)
 intro i j I K A;have q:=z i j I K A;rw[Tryz.ltS (C j A) (C i (by omega))]at q;exact q
end Go.Proofs
end
section
namespace Go.Proofs
open Go.Shelf Go.RowKit Go.Lib Go.Sort
def Tryz.ρC:Ren where
 f:=fun
  |43=>60
  |n=>n
 t:=fun
  |0=>0
  |3=>3
  |4=>4
  |22=>26
  |23=>52
  |n=>n
 g:=λn=>n
set_option maxRecDepth 100000 in
theorem Tryz.laysC:Am.JHb Tryz.prog Tryz.ρC where
 mixed:=by kernel_rfl
 f43:=⟨"slices.Compact[[]pagemend/api.Entry,pagemend/api.Entry]",by decide,by kernel_rfl⟩
 t0:=Tryz.underlying0
 a0:=Tryz.isAgg0
 z0:=Tryz.sizeOf0
 v0:=Tryz.zeroValue0
 t3:=Tryz.underlying3
 a3:=Tryz.isAgg3
 z3:=Tryz.sizeOf3
 v3:=Tryz.zeroValue3
 t4:=Tryz.underlying4
 a4:=Tryz.isAgg4
 z4:=Tryz.sizeOf4
 v4:=Tryz.zeroValue4
 t22:=Tryz.underlying26
 a22:=Tryz.isAgg26
 z22:=Tryz.sizeOf26
 v22:=Tryz.zeroValue26
theorem Tryz.cmpE(x y:Am.ET):Am.J1t [.i .i64,.i .i64,.i .i64,.i .i64,.i .i64,.i .i64,.i .i64,.i .i64,.b,.s,.b,.s,.s] (Am.cel Am.t_api_Entry x) (Am.cel Am.t_api_Entry y)=some (Am.eqT Am.t_api_Entry x y):=by obtain⟨x0,X,x2,x3,x4,E,⟨G,r,⟨F,C⟩,k,e⟩,h⟩:=x;obtain⟨I,q,H,v,D,z,⟨A,o,⟨w,B⟩,g,n⟩,j⟩:=y;show Am.J1t _ [.i .i64 x0,.i .i64 X,.i .i64 x2,.i .i64 x3,.i .i64 x4,.i .i64 E,.i .i64 G,.i .i64 r,.b F,.s C,.b k,.s e,.s h] [.i .i64 I,.i .i64 q,.i .i64 H,.i .i64 v,.i .i64 D,.i .i64 z,.i .i64 A,.i .i64 o,.b w,.s B,.b g,.s n,.s j]=_;simp only[Am.J1t,Am.Jhb,and_self,if_true,Option.some.injEq];rw[Bool.eq_iff_iff];refine Iff.trans ?_ (Am.J0F (t:=Am.t_api_Entry)).symm;show _↔(x0,X,x2,x3,x4,E,(G,r,(F,C),k,e),h)=(I,q,H,v,D,z,(A,o,(w,B),g,n),j);simp[Prod.ext_iff,and_assoc]
set_option maxRecDepth 100000 in
theorem Tryz.eqE(x y:Am.ET)(w:World):Sem.run Tryz.prog (binOp .eql 52 (.agg (Am.enT x).toArray) (.agg (Am.enT y).toArray)) w=.ok (.bool (Am.eqT Am.t_api_Entry x y)) w/\Sem.run Tryz.prog (binOp .neq 52 (.agg (Am.enT x).toArray) (.agg (Am.enT y).toArray)) w=.ok (.bool (!Am.eqT Am.t_api_Entry x y)) w:=by
 have j:Am.J9N Tryz.prog 100 52=some [.i .i64,.i .i64,.i .i64,.i .i64,.i .i64,.i .i64,.i .i64,.i .i64,.b,.s,.b,.s,.s]:=by kernel_rfl
 have g:Am.agT Tryz.prog 52=some true:=by kernel_rfl
 have rel: ∀z:Am.ET,Am.JbA ⟨[],⟨λ_=>none,λ_ _=>False⟩,w⟩ (Am.cel Am.t_api_Entry z) (Am.enT z):=λz=>⟨rfl,λi x v n k=>by
  obtain⟨u,e,h⟩:=(Am.J8i (show(Am.cel Am.t_api_Entry z).mapM Am.Jcu=some (Am.enT z)from rfl)).2 i x n;rw[k]at e;injection e with e;subst e;exact Am.JgO h w _⟩
 have o:=Am.eqK (P:=Tryz.prog) (s:=⟨[],⟨λ_=>none,λ_ _=>False⟩,w⟩) 100 52 _ j 9900 w _ _ _ _ _ (.agg (Am.enT x).toArray) (.agg (Am.enT y).toArray) (Tryz.cmpE x y) (rel x) (rel y) (.inl ⟨g,by simp⟩) (.inl ⟨g,by simp⟩);constructor;simp_all [run_eql_struct];simp_all [run_neq_struct]
theorem J80(args:List Am.AV)(blks:List Am.Blk)(r:Am.Res)(h:Am.cpP Am.t_api_Entry args blks=some r):Am.J3W Tryz.prog 60 args blks r:=by
 letI:=Am.Jlc Am.t_api_Entry
 letI:=Am.JiI Am.t_api_Entry
 have e: ∀x y:Am.t_api_Entry.D,Am.eqT Am.t_api_Entry x y= @decide (x=y) (Am.JiI Am.t_api_Entry x y):=λx y=>by rw[Bool.eq_iff_iff];exact Am.J0F.trans (decide_eq_true_iff).symm
 refine Am.JLg (α:=Am.t_api_Entry.D) (enc:=Am.enT) (zr:=Am.t_api_Entry.zero) ⟨_,Tryz.func60,by decide,by decide⟩ (by decide) (λrow x h=>(Am.Jlr h).symm) (λx=>rfl) (λx=>rfl)
  (λa cap w=>Am.JH3 Tryz.laysC a cap w)
  (λblk cap d w j k hc=>Am.JHZ (α:=Am.t_api_Entry.D) Tryz.laysC 13 (by decide) Tryz.isAgg52 Tryz.sizeOf52 Am.enT (λ_=>rfl) (λx v g=>by simp[Am.enT]at g;rcases g with rfl|rfl|rfl|rfl|rfl|rfl|rfl|rfl|rfl|rfl|rfl|rfl|rfl<;>rfl)
   (λx y w=>by rw[<-e];exact(Tryz.eqE x y w).1) (λx y w=>by rw[<-e];exact(Tryz.eqE x y w).2) (λop a b x y w=>run_eqGuard_agg w op 52 a b _ _ (by kernel_rfl)) Am.t_api_Entry.zero Tryz.zeroValue52 blk 0 cap d w j k hc) args blks r h
end Go.Proofs
end
