/-
  Parts of a proof.
-/
import Derived.Shelf.Strings.Repeat
import Derived.Shelf.Strings.Builder1
import Derived.Shelf.Lays
import Derived.Test.YtknpcflejohnoaaGreatProg
import Derived.Lib.Agree
import Derived.KernelRfl
import Derived.WalkKit
import Derived.BigCall
import Derived.Test.YtknpcflejohnoaaGreatM2
import Derived.Test.YtknpcflejohnoaaGreatM3
import Derived.Test.YtknpcflejohnoaaGreatM4
import Derived.Test.YtknpcflejohnoaaGreatM6
set_option linter.unusedSimpArgs false
set_option linter.unusedVariables false
section
namespace Go.Am
set_option maxRecDepth 20000
set_option maxHeartbeats 4000000
noncomputable section
theorem W9(r x):onO (nA g_draw_Codes_Next x) (λy=>uN (TG.of (aE 9 g_draw_Codes_Next r::[])) mr y.1 y.2 (oQ g_draw_Codes_Next))=FZ r x:=by kernel_rfl
abbrev ya:=aE 9 g_draw_Codes_Next J6::[]
theorem Wz:AE ya:=λp=>⟨XQ (fn:=mr) (l:=[]) rfl (ae0 p) rfl W9 100,ae0 p⟩
abbrev tg:=aE 71 Fa FB::aE 94 Sx VJ::aE 51 Zl WP::aE 73 Xi WJ::aE 104 Yl NF::aE 38 Wc JM::aE 19 Xw WG::aE 40 Yf NE::aE 37 W7 xE::aE 39 Xq mR::ya
theorem Eh:AE tg:=by
 iterate 10 refine eX (λ_=>rfl) ?_ λ_=>by kernel_rfl
 exact Wz
abbrev vz:=aE 44 Qp Js::aE 63 Ny pO::aE 67 Qy mK::aE 89 Ww iY::aE 64 Rn lL::aE 49 F2 tQ::aE 70 Fm wM::aE 92 Gp zO::aE 91 El wL::aE 93 Gn Fq::tg
theorem P7:AE vz:=by
 iterate 10 refine eX (λ_=>rfl) ?_ λ_=>by kernel_rfl
 exact Eh
abbrev vx:=aE 144 M3 rT::aE 126 My ML::aE 156 Hy kP::aE 155 Pm iW::aE 198 Mt pN::aE 103 Rl Jw::aE 14 G3 rG::aE 13 Nn kN::aE 32 Q6 JB::aE 36 L3 iV::vz
theorem Nd:AE vx:=by
 iterate 10 refine eX (λ_=>rfl) ?_ λ_=>by kernel_rfl
 exact P7
abbrev tu:=aE 230 Ge nV::aE 132 Oa JY::aE 163 Q3 mP::aE 65 Uu jW::aE 66 Od iI::aE 185 Pd lM::aE 229 H6 rE::aE 228 Lr LW::aE 227 Pz FM::aE 209 Wd uC::vx
theorem Ff:AE tu:=by
 iterate 10 refine eX (λ_=>rfl) ?_ λ_=>by kernel_rfl
 exact Nd
abbrev tq:=aE 218 F3 FH::aE 110 Gb eB::aE 177 To gF::aE 33 Vs JN::aE 95 Mq BF::aE 112 Ng AS::aE 120 Oj Jv::aE 143 Ox mG::aE 187 X3 lQ::aE 186 L9 hO::tu
theorem Fh:AE tq:=by
 iterate 10 refine eX (λ_=>rfl) ?_ λ_=>by kernel_rfl
 exact Ff
abbrev vj:=aE 147 Ky pT::aE 130 Ec lJ::aE 115 Hp gR::aE 133 Li iG::aE 178 Lv fG::aE 217 Th rN::aE 216 Fp pL::aE 215 Rf FQ::aE 176 Lm gP::aE 179 Gy jU::tq
theorem I4:AE vj:=by
 iterate 10 refine eX (λ_=>rfl) ?_ λ_=>by kernel_rfl
 exact Fh
abbrev vo:=aE 117 Mk AA::aE 137 JCI zH::aE 172 Ml tT::aE 138 Ub AP::aE 173 Mn nW::aE 174 Rh VM::aE 214 Uo MV::aE 175 Te AL::aE 164 E5 JT::aE 139 Fj fX::vj
theorem Ls:AE vo:=by
 iterate 10 refine eX (λ_=>rfl) ?_ λ_=>by kernel_rfl
 exact I4
abbrev wb:=aE 169 Q2 mO::aE 212 U9 MZ::aE 168 Ly MR::aE 134 Rs FU::aE 165 Og AQ::aE 45 P3 iJ::aE 166 Eb pK::aE 114 Qr rP::aE 131 O8 lP::aE 99 X5 BQ::vo
theorem Nt:AE wb:=by
 iterate 10 refine eX (λ_=>rfl) ?_ λ_=>by kernel_rfl
 exact Ls
abbrev vv:=aE 98 Qa BB::aE 116 L7 pQ::aE 136 Va rO::aE 171 Pj AR::aE 213 Eg iX::aE 135 Pq UT::aE 170 Kq AG::aE 167 Sf rX::aE 211 O3 tU::aE 248 O5 tW::wb
theorem O0:AE vv:=by
 iterate 10 refine eX (λ_=>rfl) ?_ λ_=>by kernel_rfl
 exact Nt
abbrev uh:=aE 197 Ki MF::aE 194 Tz MW::aE 46 N8 rS::aE 153 H9 pS::aE 151 Vg mI::aE 152 Vr BJ::aE 192 Rv wW::aE 236 Iy RZ::aE 235 Mg VG::aE 193 Lj zX::vv
theorem Mh:AE uh:=by
 iterate 10 refine eX (λ_=>rfl) ?_ λ_=>by kernel_rfl
 exact O0
abbrev vq:=aE 146 Ii SA::aE 189 Gq RV::aE 122 Kr SE::aE 150 R9 MY::aE 123 Ho fY::aE 154 G4 gQ::aE 196 T8 uA::aE 238 JC8 zJ::aE 195 F5 tS::aE 237 Su AI::uh
theorem I1:AE vq:=by
 iterate 10 refine eX (λ_=>rfl) ?_ λ_=>by kernel_rfl
 exact Mh
abbrev wg:=aE 111 L8 MJ::aE 21 Nq iK::aE 149 R6 rL::aE 191 D1 rK::aE 148 P0 BA::aE 190 Wm BI::aE 234 Ep LT::aE 233 Ta VL::aE 256 Pf US::aE 222 Et dN::vq
theorem Oo:AE wg:=by
 iterate 10 refine eX (λ_=>rfl) ?_ λ_=>by kernel_rfl
 exact I1
abbrev ve:=aE 102 Kl AC::aE 121 Qw lN::aE 145 Hb rH::aE 188 Hv rI::aE 231 Ss tZ::aE 232 Hs tY::aE 23 H4 pU::aE 48 Hx tX::aE 69 Q7 xA::aE 90 L2 FK::wg
theorem Lz:AE ve:=by
 iterate 10 refine eX (λ_=>rfl) ?_ λ_=>by kernel_rfl
 exact Oo
abbrev WD:=aE 245 Vu VU::aE 205 Vp WB::aE 243 M2 MI::aE 128 Tw VY::aE 161 Fc FF::aE 210 Ka FJ::aE 160 Vh BK::aE 100 Sy uB::ve
theorem w6:AE WD:=by
 iterate 8 refine eX (λ_=>rfl) ?_ λ_=>by kernel_rfl
 exact Lz
theorem Ro(r x):onO (nA g_ref09_closed x) (λy=>uN (TG.of (aE 246 g_ref09_closed r::WD)) iq y.1 y.2 (oQ g_ref09_closed))=FP r x:=by kernel_rfl
abbrev wv:=aE 246 g_ref09_closed wd::WD
theorem R2:AE wv:=λp=>⟨XQ (fn:=iq) (l:=WD) rfl (w6 p) rfl Ro 1100,w6 p⟩
abbrev xa:=aE 240 Tr VR::aE 200 Rj rW::aE 206 Tl rM::aE 244 Fk zN::aE 208 Gx RK::aE 247 Oq VE::aE 202 Ht LZ::aE 203 I7 LY::aE 242 T1 wU::aE 207 Pp UX::wv
theorem Tg:AE xa:=by
 iterate 10 refine eX (λ_=>rfl) ?_ λ_=>by kernel_rfl
 exact R2
abbrev vg:=aE 162 Kk lK::aE 127 JCN zQ::aE 159 Wb pV::aE 158 U6 uG::aE 157 JAU rC::aE 199 Us uF::aE 239 Uc FT::aE 204 G0 MP::aE 201 O9 pP::aE 241 Tu WA::xa
theorem H0:AE vg:=by
 iterate 10 refine eX (λ_=>rfl) ?_ λ_=>by kernel_rfl
 exact Tg
abbrev vw:=aE 141 Pb mM::aE 180 Kc zT::aE 181 Qi rQ::aE 220 R1 AM::aE 249 Hl wO::aE 219 Pc wT::aE 140 Hf VF::aE 97 Yq BM::aE 113 JBc zF::aE 129 K4 zY::vg
theorem Oe:AE vw:=by
 iterate 10 refine eX (λ_=>rfl) ?_ λ_=>by kernel_rfl
 exact H0
abbrev wc:=aE 226 Po VI::aE 255 Lh SC::aE 258 Ip SB::aE 182 I9 wR::aE 223 Rp FS::aE 251 X9 BR::aE 250 Y7 JI::aE 252 Yv xF::aE 221 Uq nX::aE 118 Px AT::vw
theorem Mm:AE wc:=by
 iterate 10 refine eX (λ_=>rfl) ?_ λ_=>by kernel_rfl
 exact Oe
abbrev x5:=aE 183 Vo BL::aE 225 Is zV::aE 254 Mr kO::aE 224 Pe BE::aE 253 Q9 AO::aE 257 S8 uE::aE 259 Ry VT::aE 262 Yh ND::aE 261 Y0 sA::aE 260 S0 AN::wc
theorem Vx:AE x5:=by
 iterate 10 refine eX (λ_=>rfl) ?_ λ_=>by kernel_rfl
 exact Mm
abbrev tr:=aE 15 Gg wK::aE 8 Ym BU::aE 26 Ys BN::aE 50 Gs zM::aE 72 Zn BP::aE 96 Zh pW::aE 101 Zb BV::aE 119 Iu MS::aE 142 L0 wQ::aE 184 Oh AW::x5
theorem F6:AE tr:=by
 iterate 10 refine eX (λ_=>rfl) ?_ λ_=>by kernel_rfl
 exact Vx
abbrev xr:=aE 62 S2 FR::aE 87 S5 im::aE 88 Xz WF::aE 7 JAT zL::aE 17 W4 GA::aE 18 Y2 WN::aE 22 X8 WK::aE 47 Yw WQ::aE 68 Zf WO::aE 16 We FX::tr
theorem Sg:AE xr:=by
 iterate 10 refine eX (λ_=>rfl) ?_ λ_=>by kernel_rfl
 exact F6
abbrev wh:=aE 41 N5 MO::aE 55 P9 M0::aE 77 Wt NB::aE 76 Wo rY::aE 74 Wu jX::aE 75 Ij zU::aE 54 Tc AJ::aE 30 Ug xt::aE 43 Sr VO::xr
theorem N2:AE wh:=by
 iterate 9 refine eX (λ_=>rfl) ?_ λ_=>by kernel_rfl
 exact Sg
abbrev tj:=aE 58 F0 wJ::wh
theorem Ey:AE tj:=λp=>⟨JHx rfl,N2 p⟩
abbrev tv:=aE 61 Er RX::aE 86 X0 WH::tj
theorem Ea:AE tv:=by
 iterate 2 refine eX (λ_=>rfl) ?_ λ_=>by kernel_rfl
 exact Ey
abbrev yd:=aE 60 Xo NA::tv
theorem Wh:AE yd:=λp=>⟨JI7 rfl,Ea p⟩
abbrev xy:=aE 27 Vi xD::aE 52 Mx g8::aE 6 Mu VC::aE 20 Lu wP::aE 42 Q1 tV::aE 56 Pt FV::aE 78 Kb MQ::aE 57 G7 rF::aE 59 Ya WL::yd
theorem xi:AE xy:=by
 iterate 9 refine eX (λ_=>rfl) ?_ λ_=>by kernel_rfl
 exact Wh
noncomputable def DH:PS:=λf=>if f=10 then some (pgP Jy J8 FI)else none
theorem Lc:yC DH 10=some (.prim (pgP Jy J8 FI)):=rfl
def AD(l:List TE):Prop:=yE (AF (yC DH)) l
theorem JLY{i g S l f}(hf:yC DH i=some (.fn (aL f)))(A:AD l)(q: ∀x,onO (nA g x) (λy=>uN (TG.of l) f y.1 y.2 (oQ g))=S x)(hs:DU g=true:=by rfl):AD (aE i g S::l):=⟨lg hf A hs q,A⟩
abbrev uy:=aE 10 L6 FI::xy
theorem Lt:AD uy:=⟨JJ2 Lc,xi DH⟩
abbrev Xx:=aE 4 Wy WI::aE 25 Nr BD::aE 11 Nf VB::aE 24 Hj ME::aE 12 Gd MB::aE 35 J8J NH::aE 34 Na MK::uy
theorem Wx:AD Xx:=by
 iterate 7 refine JLY rfl ?_ λ_=>by kernel_rfl
 exact Lt
end
end Go.Am
end
section
namespace Go.Proofs
open Go.Shelf Go.RowKit
def Tryz.ρA:Ren where
 f:=fun
  |105=>60
  |212=>82
  |99=>83
  |165=>84
  |166=>79
  |170=>85
  |169=>81
  |263=>106
  |264=>107
  |206=>108
  |240=>105
  |241=>109
  |276=>124
  |277=>125
  |167=>80
  |n=>n
 t:=fun
  |9=>9
  |3=>3
  |4=>4
  |20=>20
  |0=>0
  |46=>160
  |109=>161
  |5=>5
  |72=>153
  |76=>156
  |51=>129
  |146=>183
  |53=>159
  |148=>185
  |70=>151
  |37=>22
  |75=>155
  |127=>182
  |164=>211
  |80=>98
  |n=>n
 g:=λn=>n
theorem Tryz.laysRep:Lays.n105 Tryz.prog Tryz.ρA where
 mixed:=by kernel_rfl
 f99:=by kernel_rfl
 f105:=by kernel_rfl
 f165:=by kernel_rfl
 f166:=by kernel_rfl
 f169:=by kernel_rfl
 f170:=by kernel_rfl
 f206:=by kernel_rfl
 f212:=by kernel_rfl
 f240:=by kernel_rfl
 f241:=by kernel_rfl
 f263:=by kernel_rfl
 f264:=by kernel_rfl
 f276:=by kernel_rfl
 f277:=by kernel_rfl
 t0:=Tryz.underlying0
 a0:=Tryz.isAgg0
 z0:=Tryz.sizeOf0
 v0:=Tryz.zeroValue0
 t3:=Tryz.underlying3
 a3:=Tryz.isAgg3
 z3:=Tryz.sizeOf3
 v3:=Tryz.zeroValue3
 t4:=Tryz.underlying4
 a4:=Tryz.isAgg4
 z4:=Tryz.sizeOf4
 v4:=Tryz.zeroValue4
 t5:=Tryz.underlying5
 a5:=Tryz.isAgg5
 z5:=Tryz.sizeOf5
 v5:=Tryz.zeroValue5
 t9:=Tryz.underlying9
 a9:=Tryz.isAgg9
 z9:=Tryz.sizeOf9
 v9:=Tryz.zeroValue9
 t20:=Tryz.underlying20
 a20:=Tryz.isAgg20
 z20:=Tryz.sizeOf20
 v20:=Tryz.zeroValue20
 t37:=Tryz.underlying22
 a37:=Tryz.isAgg22
 z37:=Tryz.sizeOf22
 v37:=Tryz.zeroValue22
 t46:=Tryz.underlying160
 a46:=Tryz.isAgg160
 z46:=Tryz.sizeOf160
 v46:=Tryz.zeroValue160
 t51:=Tryz.underlying129
 a51:=Tryz.isAgg129
 z51:=Tryz.sizeOf129
 v51:=Tryz.zeroValue129
 t53:=Tryz.underlying159
 a53:=Tryz.isAgg159
 z53:=Tryz.sizeOf159
 v53:=Tryz.zeroValue159
 t70:=Tryz.underlying151
 a70:=Tryz.isAgg151
 z70:=Tryz.sizeOf151
 v70:=Tryz.zeroValue151
 t72:=Tryz.underlying153
 a72:=Tryz.isAgg153
 z72:=Tryz.sizeOf153
 v72:=Tryz.zeroValue153
 t75:=Tryz.underlying155
 a75:=Tryz.isAgg155
 z75:=Tryz.sizeOf155
 v75:=Tryz.zeroValue155
 t76:=Tryz.underlying156
 a76:=Tryz.isAgg156
 z76:=Tryz.sizeOf156
 v76:=Tryz.zeroValue156
 t109:=Tryz.underlying161
 a109:=Tryz.isAgg161
 z109:=Tryz.sizeOf161
 v109:=Tryz.zeroValue161
 t127:=Tryz.underlying182
 a127:=Tryz.isAgg182
 z127:=Tryz.sizeOf182
 v127:=Tryz.zeroValue182
 t146:=Tryz.underlying183
 a146:=Tryz.isAgg183
 z146:=Tryz.sizeOf183
 v146:=Tryz.zeroValue183
 t148:=Tryz.underlying185
 a148:=Tryz.isAgg185
 z148:=Tryz.sizeOf185
 v148:=Tryz.zeroValue185
 t164:=Tryz.underlying211
 a164:=Tryz.isAgg211
 z164:=Tryz.sizeOf211
 v164:=Tryz.zeroValue211
theorem Tryz.laysWB:Lays.n167 Tryz.prog Tryz.ρA where
 mixed:=by kernel_rfl
 f167:=by kernel_rfl
 f240:=by kernel_rfl
 f276:=by kernel_rfl
 t0:=Tryz.underlying0
 a0:=Tryz.isAgg0
 z0:=Tryz.sizeOf0
 v0:=Tryz.zeroValue0
 t4:=Tryz.underlying4
 a4:=Tryz.isAgg4
 z4:=Tryz.sizeOf4
 v4:=Tryz.zeroValue4
 t5:=Tryz.underlying5
 a5:=Tryz.isAgg5
 z5:=Tryz.sizeOf5
 v5:=Tryz.zeroValue5
 t9:=Tryz.underlying9
 a9:=Tryz.isAgg9
 z9:=Tryz.sizeOf9
 v9:=Tryz.zeroValue9
 t20:=Tryz.underlying20
 a20:=Tryz.isAgg20
 z20:=Tryz.sizeOf20
 v20:=Tryz.zeroValue20
 t37:=Tryz.underlying22
 a37:=Tryz.isAgg22
 z37:=Tryz.sizeOf22
 v37:=Tryz.zeroValue22
 t70:=Tryz.underlying151
 a70:=Tryz.isAgg151
 z70:=Tryz.sizeOf151
 v70:=Tryz.zeroValue151
 t72:=Tryz.underlying153
 a72:=Tryz.isAgg153
 z72:=Tryz.sizeOf153
 v72:=Tryz.zeroValue153
 t75:=Tryz.underlying155
 a75:=Tryz.isAgg155
 z75:=Tryz.sizeOf155
 v75:=Tryz.zeroValue155
 t164:=Tryz.underlying211
 a164:=Tryz.isAgg211
 z164:=Tryz.sizeOf211
 v164:=Tryz.zeroValue211
theorem Tryz.extraRep:Builder.Extra Tryz.prog Tryz.ρA where
 sizeBuilder:=by kernel_rfl
 liesBuilder:=by kernel_rfl
 t5:=Tryz.laysRep.t5
 a5:=Tryz.laysRep.a5
 z5:=Tryz.laysRep.z5
 v5:=Tryz.laysRep.v5
 infoByte:=by kernel_rfl
 cellsByte:=by kernel_rfl
 sizeByte:=by kernel_rfl
 neB5:=by decide
theorem Tryz.WriteByte(B b:Nat)(g:List Value)(c:Int)(w:World)(h:Lib.IsBuilder 153 5 B b g w)(hlen:g.length+1<=140737488355328)(j:B<=w.heap.size):
  Calls Tryz.prog 80 #[.pointer (some ⟨b,0,none⟩),.int .u8 c] w λe w'=>e=.returned .nilIface/\(Lib.BuilderAt 153 5 B b (.pointer (some ⟨b,0,none⟩)) (g++[.int .u8 c]) w'/\Below B w w'):=
 Any.Builder_WriteByte Tryz.laysWB Tryz.extraRep B b g c w h hlen j
theorem Tryz.WriteString(B b:Nat)(g:List Value)(s:ByteArray)(w:World)(h:Lib.IsBuilder 153 5 B b g w)(hlen:g.length+s.size<=140737488355328)(j:B<=w.heap.size):
  Calls Tryz.prog 79 #[.pointer (some ⟨b,0,none⟩),.string s] w λe w'=>e=.returned (.tuple #[.int .i64 s.size,.nilIface])/\(Lib.BuilderAt 153 5 B b (.pointer (some ⟨b,0,none⟩)) (g++Lib.strCells s) w'/\Below B w w'):=
 Any.Builder_WriteString {Tryz.laysRep with} Tryz.extraRep B b g s w h hlen j
theorem Tryz.String(B b:Nat)(l:List UInt8)(w:World)(h:Lib.IsBuilder 153 5 B b (Lib.byteCells l) w)(g:B<=w.heap.size):
  Calls Tryz.prog 81 #[.pointer (some ⟨b,0,none⟩)] w λe w'=>e=.returned (.string ⟨l.toArray⟩)/\Below B w w':=
 Any.Builder_String_any {Tryz.laysRep with} Tryz.extraRep B b l w h g
theorem R7(l:List UInt8)(n:Int)(k:Nat):Lib.byteCells (l++Am.J0E n k)++[.int .u8 (Am.J6M n k)]=Lib.byteCells (l++Am.J0E n (k+1)):=by
 rw[Am.Jqs,<-List.append_assoc,Lib.byteCells_append (l++Am.J0E n k)]
 congr 1
 show [Value.int .u8 _]=[Value.int .u8 ((UInt8.ofNat (Am.J6M n k).toNat).toNat:Int)];rw[Am.JmV]
set_option maxHeartbeats 6400000 in
set_option maxRecDepth 100000 in
theorem Tryz.put(s:ByteArray)(n:Int)(k:Nat)(hk:1<=k)(B:k<=8)(hs:s.size+8<=140737488355328)(w:World):
  Calls Tryz.prog 58 #[.string s,.int .i64 n,.int .i64 k] w λe w'=>e=.returned (.string ⟨(s.data.toList++Am.J0E n k).toArray⟩)/\Below w.heap.size w w':=by
 have C:s.data.toList.length=s.size:=(Lib.size_eq s).symm;have h0:Lib.IsBuilder 153 5 w.heap.size w.heap.size [] (w.alloc (.cells #[.pointer none,.slice none 0 0] 153)):=Lib.fresh_isBuilder 153 5 w;have b0:Below w.heap.size w (w.alloc (.cells #[.pointer none,.slice none 0 0] 153)):=(Below.refl _ w).alloc (Nat.le_refl _) _
 go_enter Tryz.func58,Tryz.ntmps58
 go_wp2_with (go_at_call 79;refine(Tryz.WriteString w.heap.size w.heap.size [] s _ h0 (by simp;omega) b0.size).mono ?_)
 rintro e v ⟨rfl,h1,b1⟩;have q:Lib.IsBuilder 153 5 w.heap.size w.heap.size (Lib.byteCells (s.data.toList++Am.J0E n 0)) v:=by rw[List.nil_append,Lib.strCells_eq]at h1;have y:Am.J0E n 0=[]:=rfl;rw[y,List.append_nil];exact Or.inr h1
 have r:=b0.trans b1;clear h1 b1 h0 b0
 go_wp2
 go_loopw [19] (λi h=> ∃j:Nat,j<=k/\i=.int .i64 j/\Lib.IsBuilder 153 5 w.heap.size w.heap.size (Lib.byteCells (s.data.toList++Am.J0E n j)) h/\Below w.heap.size w h)
  (λi _=>k-(intOf i).toNat)
 case atStart=>exact⟨0,Nat.zero_le _,rfl,q,r⟩
 case round=>
  obtain⟨j,D,rfl,o,g⟩:=hrel;by_cases A:j<k
  go_wp2_with (go_at_call 80;refine(Tryz.WriteByte w.heap.size w.heap.size _ _ _ o (by rw[Lib.byteCells_length,List.length_append,Am.JX];omega) g.size).mono ?_;rintro e x ⟨rfl,h2,b2⟩)
  have z:Am.J6M n j=IntKind.u64.wrap n/2^(8*j)%256:=by show((IntKind.wrap .u64 n).fdiv (2^(8*j)))%256=_;rw[Int.fdiv_eq_ediv_of_nonneg _ (Int.le_of_lt (Int.pow_pos (by decide)))]
  rw[<-z,R7]at h2;exact⟨⟨j+1,by omega,by simp,Or.inr h2,g.trans b2⟩,by simp[intOf];omega⟩;obtain rfl:j=k:=by omega
  go_wp2_with (go_at_call 81;refine(Tryz.String w.heap.size w.heap.size _ _ o g.size).mono ?_;rintro e x ⟨rfl,b2⟩)
  go_wp2
  go_ret
  exact⟨rfl,g.trans b2⟩
theorem Tryz.put_out(s:ByteArray)(n k:Int)(hk:k<1\/8<k)(w:World):
  Calls Tryz.prog 58 #[.string s,.int .i64 n,.int .i64 k] w λe w'=>e=.returned (.string s)/\Below w.heap.size w w':=by
 go_enter Tryz.func58,Tryz.ntmps58
 go_wp2
 all_goals (go_ret;exact⟨rfl,Below.refl _ _⟩)
theorem nx(l:List UInt8): ∀c,Lib.repeatL l c=(List.replicate c l).flatten|0=>rfl|c+1=>by rw[Lib.repeatL,nx l c,List.replicate_succ,List.flatten_cons]
theorem ou(l:List UInt8):(⟨l.toArray⟩:ByteArray).data.toList=l:=rfl
theorem Wv(args:List Am.AV)(blks:List Am.Blk)(r:Am.Res)(h:Am.JBR args blks=some r):Am.J5N Tryz.prog 60 args blks r:=by
 unfold Am.JBR at h;split at h;rename_i bl l n;obtain⟨x,e,rfl⟩:=Option.map_eq_some_iff.1 h;unfold Am.Jl4 at e;split at e;rename_i g;obtain⟨h0,h1,h2⟩:=g;injection e with e;subst e;refine Am.JpD (xs:=[.s l,.i .i64 n]) (vs:=[.string ⟨l.toArray⟩,.int .i64 n]) (v:=.string ⟨((List.replicate n.toNat l).flatten).toArray⟩) ⟨_,Tryz.func60,by decide,by decide⟩ rfl rfl λw=>?_;have h3:=Any.strings_Repeat Tryz.laysRep Tryz.extraRep ⟨l.toArray⟩ n.toNat w (by omega) (by rw[Lib.size_eq];exact h2);rw[ou,nx,show((n.toNat:Nat):Int)=n by omega]at h3;exact h3;cases e;cases h
theorem Ie(args:List Am.AV)(blks:List Am.Blk)(r:Am.Res)(h:Am.JBm args blks=some r):Am.J5N Tryz.prog 58 args blks r:=by
 unfold Am.JBm at h;split at h;rename_i bl l n k;obtain⟨x,e,rfl⟩:=Option.map_eq_some_iff.1 h;unfold Am.JjV at e;split at e;rename_i g;injection e with e;subst e;exact Am.JpD (xs:=[.s l,.i .i64 n,.i .i64 k]) (vs:=[.string ⟨l.toArray⟩,.int .i64 n,.int .i64 k]) (v:=.string ⟨l.toArray⟩) ⟨_,Tryz.func58,by decide,by decide⟩ rfl rfl λw=>Tryz.put_out _ n k g w;rename_i g;split at e;rename_i h2;injection e with e;subst e;refine Am.JpD (xs:=[.s l,.i .i64 n,.i .i64 k]) (vs:=[.string ⟨l.toArray⟩,.int .i64 n,.int .i64 k]) (v:=.string ⟨(l++Am.J0E n k.toNat).toArray⟩) ⟨_,Tryz.func58,by decide,by decide⟩ rfl rfl λw=>?_;have h3:=Tryz.put ⟨l.toArray⟩ n k.toNat (by omega) (by omega) (by rw[Lib.size_eq];exact h2) w;rw[ou,show((k.toNat:Nat):Int)=k by omega]at h3;exact h3;cases e;cases h
end Go.Proofs
end
