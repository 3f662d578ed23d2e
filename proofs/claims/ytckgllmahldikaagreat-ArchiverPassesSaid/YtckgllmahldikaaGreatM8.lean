/-
  Parts of a proof.
-/
import Derived.Shelf.Strings.Builder1
import Derived.Shelf.Lays
import Derived.Test.YtckgllmahldikaaGreatProg
import Derived.Lib.Agree
import Derived.KernelRfl
import Derived.WalkKit
import Derived.BigCall
import Derived.Shelf.SlSortCmp.WholeK
import Derived.Shelf.SlLaysF0
import Derived.Test.YtckgllmahldikaaGreatChecked
import Derived.WalkSpells
import Derived.Tactics
import Derived.Tactics2
import Derived.Deep.RegionHeld3
import Derived.StillTactics
import Derived.Test.YtckgllmahldikaaGreatM2
import Derived.Test.YtckgllmahldikaaGreatM3
import Derived.Test.YtckgllmahldikaaGreatM4
import Derived.Test.YtckgllmahldikaaGreatM7
set_option linter.unusedSimpArgs false
set_option linter.unusedVariables false
set_option linter.unusedSectionVars false
set_option maxRecDepth 20000
set_option maxHeartbeats 4000000
open Option renaming some → Z,none → Y
open Bool renaming true → O,false → J
open Go.IntKind renaming i64 → I
section
namespace Go.Am
noncomputable section
theorem JRq{i g S l f}(hf: ∀p,uV p i=Z (.fn (aP f)))(A:AE l)(q: ∀x,onO (hO g x) (λy=>mL (TG.of l) f y.1 y.2 (iP g))=S x):AE (bO i g S::l):=λp=>⟨jo (hf p) (A p) q,A p⟩
abbrev Gj:=aH 92 ug lI::bO 117 (gS [gD dQ,gD J3] [gC .b]) LQ::bO 115 ug LY::aH 153 BO Jh::aH 122 sm LK::aH 84 Eu tX::aH 74 (gS [gI,gI] [gI]) oU::aH 125 da sG::aH 62 H5 gx::aH 112 rh gT::aH 113 BO lK::aH 152 ⟨[],[],[],.a (.m (.ar 9 ra) [.d .b,.d .b,.d .b,.d .b,.d .b,.d .f,.d .f,.d .b,.d .b,.d .b,.d .b,.d .b,.fn 179,.fn 181,.d .b,.d .b,.d .b,.d .b,.d .b,.fn 182,.fn 181,.d .b,.d .b,.d .b,.d .b,.d .b,.fn 179,.fn 180,.d .b,.d .b,.d .b,.d .b,.d .b,.fn 179,.fn 180,.d .b,.d .b,.d .b,.d .b,.d .b,.fn 179,.fn 180,.d .b,.d .b,.d .b,.d .b,.d .b,.fn 179,.fn 180,.d .b,.d .b,.d .b,.d .b,.d .b,.fn 179,.fn 183,.d .b,.d .b,.d .b,.d .b,.d .b,.fn 179,.fn 180]),[],[],[.b,.b,.b,.b,.b,.f,.f,.b,.b,.b,.b,.b,.b,.b,.b,.b,.b,.b,.b,.b,.b,.b,.b,.b,.b,.b,.b,.b,.b,.b,.b,.b,.b,.b,.b,.b,.b,.b,.b,.b,.b,.b,.b,.b,.b,.b,.b]⟩ Wk::aH 183 cu FP::aH 182 BO nJ::aH 179 BO jP::aH 180 cu AS::aH 181 cu xF::aH 217 da FH::aH 218 I1 JK::aH 151 (gS [gI,gD J3] [gC .b]) sJ::aH 66 H3 FU::aH 32 Io xK::aH 65 BO Jh::[]
theorem Er:AE Gj:=by
 refine xP (λ_=>rfl) ?_ λ_=>by kernel_rfl
 iterate 2 refine JRq (λ_=>rfl) ?_ λ_=>by kernel_rfl
 iterate 20 refine xP (λ_=>rfl) ?_ λ_=>by kernel_rfl
 exact ae0
abbrev Ep:=aH 145 Dw fO::Gj
theorem JBV:AE Ep:=λp=>⟨JLv rfl,Er p⟩
abbrev Eo:=aH 102 D3 AM::Ep
theorem Dr:AE Eo:=by
 refine xP (λ_=>rfl) ?_ λ_=>by kernel_rfl
 exact JBV
abbrev Gr:=aH 101 F4 nG::aH 146 Dt KI::aH 178 ⟨[],[],[],.a (.dt (.ar 16 (.i .u32))),[],[],[(.ar 16 (.i .u32))]⟩ ir::Eo
theorem Fp:AE Gr:=by
 iterate 3 refine xP (λ_=>rfl) ?_ λ_=>by kernel_rfl
 exact Dr
abbrev Ii:=aH 103 G3 oS::aH 147 Dz QW::Gr
theorem Gy:AE Ii:=by
 iterate 2 refine xP (λ_=>rfl) ?_ λ_=>by kernel_rfl
 exact Fp
noncomputable def CW:PS:=λf=>if f=51 then Z (BV dQ FI)else Y
theorem Vo:uV CW 51=Z (.prim (BV dQ FI)):=rfl
def AD(l:List TE):Prop:=uX (AF (uV CW)) l
theorem mQ{i g S l f}(hf:uV CW i=Z (.fn (aP f)))(A:AD l)(q: ∀x,onO (hO g x) (λy=>mL (TG.of l) f y.1 y.2 (iP g))=S x)(hs:HY g=O:=by rfl):AD (aH i g S::l):=⟨xb hf A hs q,A⟩
theorem DC{i g S l f}(hf:uV CW i=Z (.fn (aP f)))(A:AD l)(q: ∀x,onO (hO g x) (λy=>mL (TG.of l) f y.1 y.2 (iP g))=S x):AD (bO i g S::l):=⟨jo hf A q,A⟩
abbrev Gw:=aH 51 Ge FI::Ii
theorem V6:AD Gw:=⟨JN0 Vo,Gy CW⟩
abbrev Si:=bO 120 ⟨[.c (._r 0)],[.arr O J3],[(.l J3)],.a (.c (._r 0)),[.arr O J3],[O],[(.l J3)]⟩ iw::aH 119 sm BF::aH 116 BO cm::Gw
theorem Jae:AD Si:=by
 refine DC rfl ?_ λ_=>by kernel_rfl
 iterate 2 refine mQ rfl ?_ λ_=>by kernel_rfl
 exact V6
abbrev Sm:=bO 121 ⟨[.c (._r 0),.fn 122 [] []],[.arr O J3],[(.l J3)],.tup [],[.arr O J3],[O],[(.l J3)]⟩ SV::Si
theorem J9Y:AD Sm:=⟨JNl (t:=J3) (N:=J9w) rfl,Jae⟩
abbrev ix:=bO 219 _G JaI::bO 240 _G J9y::bO 184 ⟨[.c (._r 0),.c (.d (.i I)),.c (.d (.i I)),.fn 119 [] []],[.arr O J3],[(.i I),(.i I),(.l J3)],.tup [],[.arr O J3],[O],[(.l J3)]⟩ J8n::bO 117 ⟨[.m dQ [.d (.i I),.d (.i I),.d (.i I),.d (.i I),.d (.i I),._r 0],.dt J3],[.arr O J3],[(.i I),(.i I),(.i I),(.i I),(.i I),J3,(.l J3)],.a (.c (.d .b)),[.arr O J3],[O],[.b,(.l J3)]⟩ ie::aH 63 ⟨[.c (.d (.l J3)),.fn 116 [] []],[],[(.l J3)],.a (.c (.d .b)),[],[],[.b]⟩ ja::bO 114 ⟨[.c (.d (.l J3)),.fn 116 [] []],[],[(.l J3)],.a (.c (.d (.i I))),[],[],[(.i I)]⟩ iz::bO 115 ⟨[.m dQ [.d (.i I),.d (.i I),.d (.i I),.d (.i I),.d (.i I),._r 0]],[.arr O J3],[(.i I),(.i I),(.i I),(.i I),(.i I),(.l J3)],.a (.c (.d .b)),[.arr O J3],[O],[.b,(.l J3)]⟩ io::Sm
theorem So:AD ix:=by
 iterate 4 refine DC rfl ?_ λ_=>by kernel_rfl
 refine mQ rfl ?_ λ_=>by kernel_rfl
 iterate 2 refine DC rfl ?_ λ_=>by kernel_rfl
 exact J9Y
theorem J9Z(r x):onO (hO _G x) (λy=>mL (TG.of (bO 185 _G r::ix)) za y.1 y.2 (iP _G))=Sh r x:=by kernel_rfl
abbrev Sj:=bO 185 _G J9W::ix
theorem Ja1:AD Sj:=⟨kx (fn:=za) (l:=ix) rfl (So) J9Z 100,So⟩
abbrev Es:=aH 67 D0 YQ::bO 118 ⟨[.c (._r 0),.fn 119 [] []],[.arr O J3],[(.l J3)],.tup [],[.arr O J3],[O],[(.l J3)]⟩ zc::bO 154 ⟨[.c (._r 0),.c (.d (.i I)),.fn 119 [] []],[.arr O J3],[(.i I),(.l J3)],.tup [],[.arr O J3],[O],[(.l J3)]⟩ JaY::Sj
theorem JCf:AD Es:=by
 refine mQ rfl ?_ λ_=>by kernel_rfl
 iterate 2 refine DC rfl ?_ λ_=>by kernel_rfl
 exact Ja1
abbrev Sf:=aH 53 (zG AG) y1::Es
theorem Jce:AD Sf:=⟨R6 rfl,JCf⟩
abbrev iy:=bO 197 _F J8R::bO 227 _F J80::bO 161 ⟨[.c (._r 0),.c (.d (.i I)),.c (.d (.i I)),.fn 83 [] []],[.arr O hJ],[(.i I),(.i I),(.l hJ)],.tup [],[.arr O hJ],[O],[(.l hJ)]⟩ J6Y::aH 71 (gS [gD eC,gD AG] [gD dQ,gC .b]) ij::aH 98 Fi ZW::aH 141 ⟨[.c (.d .s)],[],[.s],.tup [.m dQ [.d (.i I),.d (.i I),.d (.i I),.d (.i I),.d (.i I),._r 0],.c (.d (.i I)),.c (.d .b)],[.arr O J3],[],[(.i I),(.i I),(.i I),(.i I),(.i I),(.i I),.b,(.l J3)]⟩ LR::aH 172 ⟨[.c (.d (.i I)),.c (.ptr 0 []),.c (.ptr 1 [])],[.box .s,.box (.i I)],[(.i I),.s,(.i I)],.a (.c (.d (.i I))),[.box .s,.box (.i I)],[O,O],[(.i I),.s,(.i I)]⟩ xN::aH 171 Sg yq::aH 216 Sg yz::aH 142 G7 bz::aH 174 I9 SS::aH 175 Ka SQ::aH 173 Kb oY::aH 140 Ie SL::aH 170 D9 EQ::aH 77 It ii::aH 85 Ia SO::aH 83 (gS [gD hJ,gD hJ] [gI]) FW::aH 10 ⟨[.c (.d (.l (.i .u8))),.c (.d (.i I))],[],[(.l (.i .u8)),(.i I)],.a (.c (.ptr 0 [])),[.box J5],[],[J5]⟩ AB::aH 26 Hn gz::aH 63 ⟨[.c (.d (.l J3)),.fn 64 [] [.ptr 0 []]],[.box eC],[(.l J3),eC],.a (.c (.d .b)),[.box eC],[O],[.b,eC]⟩ jb::bO 114 ⟨[.c (.d (.l J3)),.fn 64 [] [.ptr 0 []]],[.box eC],[(.l J3),eC],.a (.c (.d (.i I))),[.box eC],[O],[(.i I),eC]⟩ i5::aH 64 ⟨[.dt J3,.c (.ptr 0 [])],[.box eC],[J3,eC],.a (.c (.d .b)),[.box eC],[O],[.b,eC]⟩ im::Sf
theorem Ss:AD iy:=by
 iterate 3 refine DC rfl ?_ λ_=>by kernel_rfl
 iterate 18 refine mQ rfl ?_ λ_=>by kernel_rfl
 refine DC rfl ?_ λ_=>by kernel_rfl
 refine mQ rfl ?_ λ_=>by kernel_rfl
 exact Jce
theorem J8e(r x):onO (hO _F x) (λy=>mL (TG.of (bO 162 _F r::iy)) zb y.1 y.2 (iP _F))=Su r x:=by kernel_rfl
abbrev Sr:=bO 162 _F J8u::iy
theorem J8k:AD Sr:=⟨kx (fn:=zb) (l:=iy) rfl (Ss) J8e 100,Ss⟩
abbrev Et:=aH 27 (gS [gD eC] [gC (.l J3),gC .b]) YK::aH 60 (gS [gC (.l J3),gD J3] [gC (.l J3),gC .b]) xD::aH 111 sm oX::aH 35 (gS [gD eC] [gC (.l dQ),gC (.l (.i I))]) gp::bO 82 ⟨[.c (._r 0),.fn 83 [] []],[.arr O hJ],[(.l hJ)],.tup [],[.arr O hJ],[O],[(.l hJ)]⟩ ze::bO 126 ⟨[.c (._r 0),.c (.d (.i I)),.fn 83 [] []],[.arr O hJ],[(.i I),(.l hJ)],.tup [],[.arr O hJ],[O],[(.l hJ)]⟩ J90::Sr
theorem JCh:AD Et:=by
 iterate 4 refine mQ rfl ?_ λ_=>by kernel_rfl
 iterate 2 refine DC rfl ?_ λ_=>by kernel_rfl
 exact J8k
abbrev Ke:=aH 61 (zG (.i I)) yu::Et
theorem Jid:AD Ke:=⟨R6 rfl,JCh⟩
abbrev ct:=aH 22 ⟨[],[],[],.a (.c (.d .b)),[],[],[.b]⟩ ZX::aH 39 (gS [gD eC,gI] [gI,gI,gC .b]) g6::aH 87 (gS [gC (.l (.i I)),gI] [gI,gC .b]) yy::aH 131 da sG::aH 130 G8 Gv::aH 23 Gl dc::Ke
theorem Fv:AD ct:=by
 iterate 6 refine mQ rfl ?_ λ_=>by kernel_rfl
 exact Jid
theorem JnB(r x):onO (hO _H x) (λy=>mL (TG.of (aH 25 _H r::ct)) tq y.1 y.2 (iP _H))=LX r x:=by kernel_rfl
abbrev I0:=aH 25 _H Jk::ct
theorem JnG:AD I0:=⟨kg (fn:=tq) (l:=ct) rfl (Fv) rfl JnB 100,Fv⟩
abbrev H2:=aH 12 ⟨[.c (.ptr 0 []),.c (.d (.i I)),.dt JR],[.box J5],[(.i I),JR,J5],.a (.dt eC),[.box J5],[O],[eC,J5]⟩ cr::aH 19 (gS [gD eC,gI] [gD eC,gI]) YT::aH 16 (gS [gD eC,gI] [gD eC,gC .b,gI]) YZ::aH 57 (gS [gC (.l dQ),gC (.l .b)] [gD dQ,gC .b]) ZQ::aH 56 (gS [gD eC] [gC (.l dQ),gC (.l (.i I)),gC (.l .b)]) ZT::aH 106 Ia gw::aH 91 (gS [gD eC,gD AG] [gD dQ,gI]) de::aH 136 It jN::aH 135 Fi sK::aH 164 (gS [gC .s,gI,gI] [gI]) JG::aH 165 G7 tZ::aH 200 I9 xM::aH 199 Kb JB::aH 201 Ka xO::aH 163 Ie jO::aH 198 D9 JM::aH 42 Hn AR::aH 33 Io AZ::aH 88 H3 eH::aH 90 D0 KL::aH 58 Ge kG::aH 107 ug fI::aH 134 (gS [gI,gI,gI,gI,gI] [gC .b]) mJ::aH 68 BO Jh::aH 109 D3 tT::aH 110 G3 oR::aH 150 Dz wW::aH 108 F4 nF::aH 149 Dt oG::aH 148 Dw JC::aH 69 H5 JU::aH 70 rh gT::aH 123 BO Jo::aH 157 (gS [gD J3] [gD J3,gC .b]) oJ::aH 195 cu iJ::aH 225 I1 JK::aH 158 G8 lH::aH 31 Gl ER::aH 79 (gS [gI,gC (.l (.i I))] [gC .b]) FG::aH 24 ⟨[.c (.ptr 0 []),.c (.d (.i I))],[.box J5],[(.i I),J5],.a (.c (.d (.l (.i I)))),[.box J5],[O],[(.l (.i I)),J5]⟩ ZE::I0
theorem Zp:AD H2:=by
 iterate 40 refine mQ rfl ?_ λ_=>by kernel_rfl
 exact JnG
abbrev F3:=aH 296 (gS [gD (.l Je),gD J3] [gD (.l Je),gI]) mI::aH 339 (gS [gD (.l Je),gI,gD Je] [gD (.l Je)]) KJ::aH 294 (gS [gD JR,gI] [gD J3,gI]) fF::aH 293 (gS [gD JR,gD J3] [gD JR,gI,gI]) iY::aH 206 Fq LC::aH 228 F7 KU::aH 236 Gf Jv::aH 259 Gf oI::aH 304 (gS [gC (.l Je),gI] [gC .b]) nK::aH 303 (gS [gD (.l Je)] [gC .b]) iX::aH 346 da qK::aH 248 (gS [gD JS] [gC .b]) JW::aH 280 rk qN::aH 330 rk sH::aH 331 rk sA::aH 302 (gS [gD JL] [gC .b]) nE::aH 345 (gS [gD JL,gI,gD dN] [gI]) tS::aH 344 tc FA::aH 343 (gS [gD Jg] [gC .b]) KX::aH 328 tc xL::aH 260 (gS [gD Ja,gI] [gD Je,gC .b]) wU::aH 242 F2 SB::aH 273 Eh nD::aH 272 (gS [gC (.l Jp)] [gC .b]) kE::aH 317 (gS [gD Jp] [gC .b]) rZ::aH 214 Gt Js::aH 47 rh tV::aH 46 Fs jM::aH 137 (gS [gI,gI] [gD Jq,gI]) AJ::aH 166 (gS [gI,gI] [gD Ja,gI]) AP::aH 203 (gS [gI] [gD (.l Je),gI]) EP::aH 202 (gS [gI] [gD JS,gI]) AO::aH 204 ⟨[],[],[],.a (.dt JR),[],[],[JR]⟩ JBj::aH 167 (gS [gI] [gD JZ,gI]) KB::aH 205 (gS [gI] [gC (.l .s)]) db::aH 139 ⟨[.c (.ptr 0 []),.c (.d (.i I)),.c (.d (.i I)),.c (.d .b)],[.box J5],[(.i I),(.i I),.b,J5],.a (.c (.d (.l iG))),[.box J5],[O],[(.l iG),J5]⟩ iu::aH 169 ⟨[.c (.ptr 0 []),.c (.d (.i I)),.c (.d (.i I)),.c (.d .b)],[.box J5],[(.i I),(.i I),.b,J5],.a (.dt iG),[.box J5],[O],[iG,J5]⟩ ik::aH 215 ⟨[.c (.ptr 0 []),.c (.d (.i I))],[.box J5],[(.i I),J5],.a (.dt gR),[.box J5],[O],[gR,J5]⟩ SR::aH 14 ⟨[.c (.ptr 0 [])],[.box J5],[J5],.a (.c (.d (.i I))),[.box J5],[O],[(.i I),J5]⟩ iZ::aH 133 ⟨[.c (.ptr 0 [])],[.box J5],[J5],.a (.c (.d .s)),[.box J5],[O],[.s,J5]⟩ LW::H2
theorem JB0:AD F3:=by
 iterate 40 refine mQ rfl ?_ λ_=>by kernel_rfl
 exact Zp
abbrev F5:=aH 354 E9 YR::aH 353 (gS [gD JL,gI] [gC .b]) ZB::aH 311 (gS [gC (.l Jg),gI,gC .b,gD dN] [gC (.l Jg)]) EX::aH 209 r6 KZ::aH 232 (gS [gD Jq,gD Ja,gD Jy] [gD Jq,gI]) uE::aH 252 (gS [gD Ja,gI,gI] [gD Ja,gI]) xA::aH 287 (gS [gD JS,gI,gI] [gD JS,gI]) KT::aH 334 (gS [gD JS,gI,gD fJ] [gD JS]) lG::aH 251 (gS [gD JZ,gI,gC .s] [gD JZ,gI]) ZG::aH 286 sf oP::aH 283 (gS [gD JZ,gI] [gI]) tY::aH 332 (gS [gD JZ] [gC .b]) wT::aH 366 (gS [gD JZ,gD dP] [gC .b]) wV::aH 285 ⟨[.m JZ [._r 0,.d (.i I),.d (.l (.i I)),.d .b,._r 1],.c (.d (.i I)),.c (.d .s),.c (.d (.i I))],[.arr O .s,.arr O dP],[(.i I),(.l (.i I)),.b,(.i I),.s,(.i I),(.l .s),(.l dP)],.a (.m JZ [._r 0,.d (.i I),.d (.l (.i I)),.d .b,._r 1]),[.arr O .s,.arr O dP],[J,J],[(.i I),(.l (.i I)),.b,(.l .s),(.l dP)]⟩ oM::aH 333 sf SM::aH 284 ⟨[.dt JZ],[],[JZ],.a (.m JZ [._r 0,.d (.i I),.d (.l (.i I)),.d .b,._r 1]),[.arr O .s,.arr O dP],[],[(.i I),(.l (.i I)),.b,(.l .s),(.l dP)]⟩ RJ::aH 250 (gS [gD Jy] [gC .s,gI]) LL::aH 282 Ga FJ::aH 281 (gS [gD Jy] [gI]) sC::aH 230 (gS [gD Ja,gI] [gD Ja,gD Jy,gI]) wQ::aH 247 (gS [gD Ja,gI] [gD Ja]) oN::aH 210 Fq LV::aH 233 F7 KM::aH 253 (gS [gD Ja] [gD oT,gI]) IY::aH 288 (gS [gD JS] [gC (.l Je)]) AT::aH 254 (gS [gD oT] [gC .s,gI]) LO::aH 289 (gS [gD oT] [gC .b]) sD::aH 290 (gS [gC (.l Jp)] [gC .s,gI]) dg::aH 335 (gS [gC .s,gC (.l (.i I))] [gC .s]) SH::aH 291 (gS [gD (.l Je)] [gC .s,gI]) LG::aH 255 (gS [gD Ja,gD J3] [gD Ja,gI,gI]) hE::aH 263 Fb tU::aH 246 (gS [gD JS,gI] [gD Jy,gC .b]) oF::aH 231 Fc iW::aH 249 Fc kF::aH 295 (gS [gC (.l Jp),gD J3] [gC (.l Jp),gI]) fP::aH 338 (gS [gD Jp] [gD Jp]) uA::aH 337 (gS [gC (.l Jp),gI,gD Jp] [gC (.l Jp)]) rX::aH 336 (gS [gC (.l Jp),gI] [gC (.l Jp)]) LI::aH 292 Eh iH::F3
theorem Tz:AD F5:=by
 iterate 40 refine mQ rfl ?_ λ_=>by kernel_rfl
 exact JB0
abbrev E8:=aH 278 D5 KH::aH 329 sf oP::aH 277 (gS [gD JL,gI] [gD Jg,gC .b]) FT::aH 211 Gt xG::aH 213 (gS [gD Jq] [gD Jq,gC .b,gI]) KO::aH 237 r6 oK::aH 261 (gS [gD Jq] [gD Jq,gI]) wX::aH 305 (gS [gD Ja] [gD Ja,gD Jy,gC .b,gI]) wY::aH 347 (gS [gD JS] [gD JS,gI,gI]) BJ::aH 348 (gS [gD JS,gI] [gD JS,gI]) AQ::aH 265 (gS [gD JR,gD Jy,gI] [gD Jy,gI]) FD::aH 308 (gS [gD JR,gD Jy,gI] [gD Jy,gI,gI]) EY::aH 351 (gS [gD JR,gD Jy,gI] [gC (.l J3),gI]) ZP::aH 371 (gS [gD JR,gI,gI,gI] [gC (.l J3),gI]) YX::aH 374 (gS [gD J3,gC (.l J3)] [gC (.l J3)]) rm::aH 352 (gS [gD Jy,gD J3] [gD Jy,gI]) FO::aH 266 (gS [gD Ja,gD Jy] [gD Ja,gI]) xH::aH 309 ⟨[.dt JS,.dt Jy],[],[JS,Jy],.tup [.m JS [.d (.i I),._r 0,.d (.i I)],.c (.d (.i I))],[.arr O fJ],[],[(.i I),(.i I),(.i I),(.l fJ)]⟩ wP::aH 264 (gS [gD (.l Je),gI,gI,gC .s] [gD Jy,gI]) FN::aH 307 (gS [gC .s,gI] [gD Jy,gI]) FR::aH 350 (gS [gI] [gD Jy]) QZ::aH 349 (gS [gC .s] [gD Jy,gI]) df::aH 370 ⟨[],[],[],.a (.c (.d .s)),[],[],[.s]⟩ ZF::aH 262 (gS [gD JZ,gI] [gC .s,gI]) YS::aH 306 (gS [gC (.l (.i I)),gI] [gC .b]) YN::aH 238 (gS [gD Ja] [gC (.l (.i I))]) YV::aH 267 (gS [gD Ja,gI] [gD Jp,gC .b]) SG::aH 239 El iI::aH 271 (gS [gD Ja,gD Jp,gD J3] [gD Ja,gD fD]) jL::aH 315 (gS [gD Ja,gI,gD dN] [gD J3,gC .b]) xE::aH 356 (gS [gD Ja,gD Jp,gD dN,gI] [gD J3,gC .b]) EN::aH 314 (gS [gD Ja,gD J3] [gD Ja,gI]) AN::aH 355 (gS [gD JS,gD Jy] [gD JS,gI]) LD::aH 316 (gS [gD JL,gI,gD dN] [gD JL]) RG::aH 312 (gS [gD hI] [gD hI]) SJ::aH 313 (gS [gD Jy,gD hI] [gD Jy,gI]) AW::aH 270 (gS [gD Ja,gI] [gD J3,gC .b]) rY::aH 268 (gS [gD Ja,gI] [gD Jp,gI]) oW::aH 269 Hj FS::aH 310 (gS [gD JL] [gD JL]) BB::F5
theorem JBo:AD E8:=by
 iterate 40 refine mQ rfl ?_ λ_=>by kernel_rfl
 exact Tz
abbrev ia:=aH 363 (gS [gD JL] [gC (.l (.i I))]) gk::aH 324 (gS [gD JL,gD Jg] [gD JL,gC .b,gI]) g7::aH 361 (gS [gD JL,gD Jg] [gI]) RZ::aH 244 (gS [gD Ja,gI] [gI,gD dN,gC .b]) gu::E8
theorem Ht:AD ia:=by
 iterate 4 refine mQ rfl ?_ λ_=>by kernel_rfl
 exact JBo
theorem Ye(r x):onO (hO _I x) (λy=>mL (TG.of (aH 364 _I r::ia)) ss y.1 y.2 (iP _I))=LH r x:=by kernel_rfl
abbrev Ho:=aH 364 _I G5::ia
theorem X6:AD Ho:=⟨kg (fn:=ss) (l:=ia) rfl (Ht) rfl Ye 1100,Ht⟩
abbrev G2:=aH 368 (gS [gC (.l Je),gD J3] [gC (.l Je)]) nI::aH 340 Fg LB::aH 367 (gS [gD JR] [gD oT,gI,gC .b]) LN::aH 372 (gS [gC .s] [gD oT,gI]) xI::aH 375 (gS [gC .s] [gC (.l Jp),gI]) cw::aH 378 ⟨[.c (.ptr 0 []),.c (.d (.i I))],[.box nL],[(.i I),nL],.a (.c (.d (.l (.i I)))),[.box nL],[O],[(.l (.i I)),nL]⟩ SP::aH 377 ⟨[.c (.ptr 0 []),.c (.d (.i I))],[.box nL],[(.i I),nL],.a (.c (.d (.i I))),[.box nL],[O],[(.i I),nL]⟩ uJ::aH 376 (gS [gC .s] [gD (.l Je),gI]) LM::aH 342 (gS [gD JR,gC (.l Jp)] [gC (.l Jg),gI]) ZY::aH 369 E9 YU::aH 373 tc FA::aH 299 (gS [gC .s] [gD JR,gI]) EW::aH 234 (gS [gD Jq,gI,gI,gI] [gD JZ,gC .s]) KV::aH 257 (gS [gD JR,gI] [gC .s]) sE::aH 297 Ga KQ::aH 298 (gS [gD J3] [gC .s]) wR::aH 256 (gS [gD JZ,gI,gC .s,gI] [gD JZ,gI]) ZA::aH 208 yr MD::aH 229 C1 IW::aH 245 (gS [gD Jq,gI,gD dN] [gD Jq,gI,gI]) KK::aH 279 (gS [gD Ja,gI,gD dN] [gD Ja,gD fD]) oO::aH 243 C1 KA::aH 276 r6 uG::aH 275 (gS [gD Jq,gI] [gC .b]) xB::aH 274 G0 wL::aH 318 (gS [gD Ja,gI,gD gR] [gI]) wZ::aH 357 (gS [gD Ja,gD gR] [gI]) LJ::aH 323 (gS [gI,gD gR] [gD Jg,gC .b]) RI::aH 320 (gS [gD Ja,gI,gI] [gD Ja,gD fD]) uB::aH 359 (gS [gD Ja,gI,gD dN] [gC .b]) gy::aH 358 Hj ck::aH 319 El xC::aH 325 G0 xJ::aH 362 (gS [gD JS,gI] [gD JS]) KG::aH 327 Fb YP::aH 365 Eu ZU::aH 321 F2 RE::aH 322 (gS [gC (.l Jp),gI,gI] [gC (.l Jp),gI]) RC::aH 360 (gS [gC (.l Jp),gI] [gI,gI]) BK::aH 326 D5 ZJ::Ho
theorem Xn:AD G2:=by
 iterate 40 refine mQ rfl ?_ λ_=>by kernel_rfl
 exact X6
abbrev JgO:=aH 6 (gS [gC (.l (.i .u8)),gC (.i .u8)] [gC .b]) yv::aH 29 Fs YM::aH 11 ⟨[.c (.ptr 0 []),.c (.d (.i I))],[.box J5],[(.i I),J5],.tup [.c (.d (.i I)),.dt JR],[.box J5],[O],[(.i I),JR,J5]⟩ AA::aH 45 ⟨[.c (.ptr 0 []),.c (.d (.i I)),.c (.d .b)],[.box J5],[(.i I),.b,J5],.a (.dt Ja),[.box J5],[O],[Ja,J5]⟩ LZ::aH 95 ⟨[.c (.ptr 0 []),.c (.d (.i I)),.c (.d .b)],[.box J5],[(.i I),.b,J5],.a (.dt Jq),[.box J5],[O],[Jq,J5]⟩ ME::aH 138 (gS [gD Jq,gC (.l iG)] [gD Jq,gC (.l fD),gC (.l iF)]) KE::aH 168 yr MA::aH 207 ⟨[.c (.ptr 0 []),.dt Jq,.c (.d (.i I))],[.mbox MF [.d (.i I),.d (.i I),.d (.i I),.d (.l J3),.d (.i I),.d (.i I),.d (.l fJ),.d (.i I),.d (.l Jg),.d (.l Jg),.d (.l Jp),.d (.l Je),.d (.l Je),.d (.l .s),.d (.i I),.d (.l (.i I)),.d .b,.d (.l dP),._r 1,._r 2,.d .b],.arr O (.i I),.arr O iF],[Jq,(.i I),(.i I),(.i I),(.i I),(.l J3),(.i I),(.i I),(.l fJ),(.i I),(.l Jg),(.l Jg),(.l Jp),(.l Je),(.l Je),(.l .s),(.i I),(.l (.i I)),.b,(.l dP),.b,(.l (.i I)),(.l iF)],.a (.dt fD),[.mbox MF [.d (.i I),.d (.i I),.d (.i I),.d (.l J3),.d (.i I),.d (.i I),.d (.l fJ),.d (.i I),.d (.l Jg),.d (.l Jg),.d (.l Jp),.d (.l Je),.d (.l Je),.d (.l .s),.d (.i I),.d (.l (.i I)),.d .b,.d (.l dP),._r 1,._r 2,.d .b],.arr O (.i I),.arr O iF],[O,J,J],[fD,(.i I),(.i I),(.i I),(.l J3),(.i I),(.i I),(.l fJ),(.i I),(.l Jg),(.l Jg),(.l Jp),(.l Je),(.l Je),(.l .s),(.i I),(.l (.i I)),.b,(.l dP),.b,(.l (.i I)),(.l iF)]⟩ uI::aH 212 yr MB::aH 235 Ex RK::aH 258 Ex FF::aH 301 (gS [gD JR,gD BL,gI] [gD Ja,gI]) KW::aH 300 Fg LU::aH 341 (gS [gD BL,gD J3] [gD BL,gI]) KR::G2
theorem Jih:AD JgO:=by
 iterate 14 refine mQ rfl ?_ λ_=>by kernel_rfl
 exact Xn
end
end Go.Am
end
section
namespace Go.Proofs
open Go.Shelf Go.RowKit
def Tryz.ρA:Ren where
 f:=fun
  |99=>171
  |166=>100
  |169=>104
  |206=>216
  |240=>144
  |276=>176
  |167=>177
  |n=>n
 t:=fun
  |9=>9
  |3=>3
  |4=>4
  |20=>20
  |0=>0
  |46=>178
  |5=>5
  |72=>160
  |76=>163
  |51=>197
  |53=>245
  |70=>158
  |37=>22
  |75=>162
  |127=>202
  |164=>242
  |80=>167
  |n=>n
 g:=λn=>n
theorem Tryz.laysWS:Lays.n166 Tryz.prog Tryz.ρA where
 mixed:=by kernel_rfl
 f166:=by kernel_rfl
 f240:=by kernel_rfl
 f276:=by kernel_rfl
 t0:=Tryz.underlying0
 a0:=Tryz.isAgg0
 z0:=Tryz.sizeOf0
 v0:=Tryz.zeroValue0
 t3:=Tryz.underlying3
 a3:=Tryz.isAgg3
 z3:=Tryz.sizeOf3
 v3:=Tryz.zeroValue3
 t4:=Tryz.underlying4
 a4:=Tryz.isAgg4
 z4:=Tryz.sizeOf4
 v4:=Tryz.zeroValue4
 t9:=Tryz.underlying9
 a9:=Tryz.isAgg9
 z9:=Tryz.sizeOf9
 v9:=Tryz.zeroValue9
 t20:=Tryz.underlying20
 a20:=Tryz.isAgg20
 z20:=Tryz.sizeOf20
 v20:=Tryz.zeroValue20
 t37:=Tryz.underlying22
 a37:=Tryz.isAgg22
 z37:=Tryz.sizeOf22
 v37:=Tryz.zeroValue22
 t70:=Tryz.underlying158
 a70:=Tryz.isAgg158
 z70:=Tryz.sizeOf158
 v70:=Tryz.zeroValue158
 t72:=Tryz.underlying160
 a72:=Tryz.isAgg160
 z72:=Tryz.sizeOf160
 v72:=Tryz.zeroValue160
 t75:=Tryz.underlying162
 a75:=Tryz.isAgg162
 z75:=Tryz.sizeOf162
 v75:=Tryz.zeroValue162
 t164:=Tryz.underlying242
 a164:=Tryz.isAgg242
 z164:=Tryz.sizeOf242
 v164:=Tryz.zeroValue242
theorem Tryz.laysST:Lays.n169 Tryz.prog Tryz.ρA where
 mixed:=by kernel_rfl
 f169:=by kernel_rfl
 t0:=Tryz.underlying0
 a0:=Tryz.isAgg0
 z0:=Tryz.sizeOf0
 v0:=Tryz.zeroValue0
 t3:=Tryz.underlying3
 a3:=Tryz.isAgg3
 z3:=Tryz.sizeOf3
 v3:=Tryz.zeroValue3
 t9:=Tryz.underlying9
 a9:=Tryz.isAgg9
 z9:=Tryz.sizeOf9
 v9:=Tryz.zeroValue9
 t37:=Tryz.underlying22
 a37:=Tryz.isAgg22
 z37:=Tryz.sizeOf22
 v37:=Tryz.zeroValue22
 t70:=Tryz.underlying158
 a70:=Tryz.isAgg158
 z70:=Tryz.sizeOf158
 v70:=Tryz.zeroValue158
 t72:=Tryz.underlying160
 a72:=Tryz.isAgg160
 z72:=Tryz.sizeOf160
 v72:=Tryz.zeroValue160
 t127:=Tryz.underlying202
 a127:=Tryz.isAgg202
 z127:=Tryz.sizeOf202
 v127:=Tryz.zeroValue202
theorem Tryz.laysWB:Lays.n167 Tryz.prog Tryz.ρA where
 mixed:=by kernel_rfl
 f167:=by kernel_rfl
 f240:=by kernel_rfl
 f276:=by kernel_rfl
 t0:=Tryz.underlying0
 a0:=Tryz.isAgg0
 z0:=Tryz.sizeOf0
 v0:=Tryz.zeroValue0
 t4:=Tryz.underlying4
 a4:=Tryz.isAgg4
 z4:=Tryz.sizeOf4
 v4:=Tryz.zeroValue4
 t5:=Tryz.underlying5
 a5:=Tryz.isAgg5
 z5:=Tryz.sizeOf5
 v5:=Tryz.zeroValue5
 t9:=Tryz.underlying9
 a9:=Tryz.isAgg9
 z9:=Tryz.sizeOf9
 v9:=Tryz.zeroValue9
 t20:=Tryz.underlying20
 a20:=Tryz.isAgg20
 z20:=Tryz.sizeOf20
 v20:=Tryz.zeroValue20
 t37:=Tryz.underlying22
 a37:=Tryz.isAgg22
 z37:=Tryz.sizeOf22
 v37:=Tryz.zeroValue22
 t70:=Tryz.underlying158
 a70:=Tryz.isAgg158
 z70:=Tryz.sizeOf158
 v70:=Tryz.zeroValue158
 t72:=Tryz.underlying160
 a72:=Tryz.isAgg160
 z72:=Tryz.sizeOf160
 v72:=Tryz.zeroValue160
 t75:=Tryz.underlying162
 a75:=Tryz.isAgg162
 z75:=Tryz.sizeOf162
 v75:=Tryz.zeroValue162
 t164:=Tryz.underlying242
 a164:=Tryz.isAgg242
 z164:=Tryz.sizeOf242
 v164:=Tryz.zeroValue242
theorem Tryz.extraRep:Builder.Extra Tryz.prog Tryz.ρA where
 sizeBuilder:=by kernel_rfl
 liesBuilder:=by kernel_rfl
 t5:=Tryz.underlying5
 a5:=Tryz.isAgg5
 z5:=Tryz.sizeOf5
 v5:=Tryz.zeroValue5
 infoByte:=by kernel_rfl
 cellsByte:=by kernel_rfl
 sizeByte:=by kernel_rfl
 neB5:=by decide
theorem Tryz.WriteByte(B b:Nat)(bs:List Value)(c:Int)(w:World)(h:Lib.IsBuilder 160 5 B b bs w)(hlen:bs.length+1<=140737488355328)(g:B<=w.heap.size):
  Calls Tryz.prog 177 #[.pointer (some ⟨b,0,none⟩),.int .u8 c] w λe w'=>e=.returned .nilIface/\(Lib.BuilderAt 160 5 B b (.pointer (some ⟨b,0,none⟩)) (bs++[.int .u8 c]) w'/\Below B w w'):=
 Any.Builder_WriteByte Tryz.laysWB Tryz.extraRep B b bs c w h hlen g
theorem Tryz.WriteString(B b:Nat)(bs:List Value)(s:ByteArray)(w:World)(h:Lib.IsBuilder 160 5 B b bs w)(hlen:bs.length+s.size<=140737488355328)(g:B<=w.heap.size):
  Calls Tryz.prog 100 #[.pointer (some ⟨b,0,none⟩),.string s] w λe w'=>e=.returned (.tuple #[.int .i64 s.size,.nilIface])/\(Lib.BuilderAt 160 5 B b (.pointer (some ⟨b,0,none⟩)) (bs++Lib.strCells s) w'/\Below B w w'):=
 Any.Builder_WriteString Tryz.laysWS Tryz.extraRep B b bs s w h hlen g
theorem Tryz.String(B b:Nat)(l:List UInt8)(w:World)(h:Lib.IsBuilder 160 5 B b (Lib.byteCells l) w)(g:B<=w.heap.size):
  Calls Tryz.prog 104 #[.pointer (some ⟨b,0,none⟩)] w λe w'=>e=.returned (.string ⟨l.toArray⟩)/\Below B w w':=
 Any.Builder_String_any Tryz.laysST Tryz.extraRep B b l w h g
theorem Yn(l:List UInt8)(n:Int)(k:Nat):Lib.byteCells (l++Am.J0p n k)++[.int .u8 (Am.J6R n k)]=Lib.byteCells (l++Am.J0p n (k+1)):=by
 rw[Am.Jul,<-List.append_assoc,Lib.byteCells_append (l++Am.J0p n k)]
 congr 1
 show [Value.int .u8 _]=[Value.int .u8 ((UInt8.ofNat (Am.J6R n k).toNat).toNat:Int)];rw[Am.JqV]
set_option maxHeartbeats 6400000 in
set_option maxRecDepth 100000 in
theorem Tryz.put(s:ByteArray)(n:Int)(k:Nat)(hk:1<=k)(B:k<=8)(hs:s.size+8<=140737488355328)(w:World):
  Calls Tryz.prog 145 #[.string s,.int .i64 n,.int .i64 k] w λe w'=>e=.returned (.string ⟨(s.data.toList++Am.J0p n k).toArray⟩)/\Below w.heap.size w w':=by
 have C:s.data.toList.length=s.size:=(Lib.size_eq s).symm;have r:Lib.IsBuilder 160 5 w.heap.size w.heap.size [] (w.alloc (.cells #[.pointer none,.slice none 0 0] 160)):=Lib.fresh_isBuilder 160 5 w;have g:Below w.heap.size w (w.alloc (.cells #[.pointer none,.slice none 0 0] 160)):=(Below.refl _ w).alloc (Nat.le_refl _) _
 go_enter Tryz.func145,Tryz.ntmps145
 go_wp2_with (go_at_call 100;refine(Tryz.WriteString w.heap.size w.heap.size [] s _ r (by simp;omega) g.size).mono ?_)
 rintro e v ⟨rfl,h1,b1⟩;have o:Lib.IsBuilder 160 5 w.heap.size w.heap.size (Lib.byteCells (s.data.toList++Am.J0p n 0)) v:=by rw[List.nil_append,Lib.strCells_eq]at h1;have y:Am.J0p n 0=[]:=rfl;rw[y,List.append_nil];exact Or.inr h1
 have q:=g.trans b1;clear h1 b1 r g
 go_wp2
 go_loopw [19] (λi wr=> ∃j:Nat,j<=k/\i=.int .i64 j/\Lib.IsBuilder 160 5 w.heap.size w.heap.size (Lib.byteCells (s.data.toList++Am.J0p n j)) wr/\Below w.heap.size w wr)
  (λi _=>k-(intOf i).toNat)
 case atStart=>exact⟨0,Nat.zero_le _,rfl,o,q⟩
 case round=>
  obtain⟨j,D,rfl,h,hb⟩:=hrel;by_cases A:j<k
  ·go_wp2_with (go_at_call 177;refine(Tryz.WriteByte w.heap.size w.heap.size _ _ _ h (by rw[Lib.byteCells_length,List.length_append,Am.JO];omega) hb.size).mono ?_;rintro e x ⟨rfl,h2,b2⟩)
   have z:Am.J6R n j=IntKind.u64.wrap n/2^(8*j)%256:=by show((IntKind.wrap .u64 n).fdiv (2^(8*j)))%256=_;rw[Int.fdiv_eq_ediv_of_nonneg _ (Int.le_of_lt (Int.pow_pos (by decide)))]
   rw[<-z,Yn]at h2;exact⟨⟨j+1,by omega,by simp,Or.inr h2,hb.trans b2⟩,by simp[intOf];omega⟩
  ·obtain rfl:j=k:=by omega
   go_wp2_with (go_at_call 104;refine(Tryz.String w.heap.size w.heap.size _ _ h hb.size).mono ?_;rintro e x ⟨rfl,b2⟩)
   go_wp2
   go_ret
   exact⟨rfl,hb.trans b2⟩
theorem Tryz.put_out(s:ByteArray)(n k:Int)(hk:k<1\/8<k)(w:World):
  Calls Tryz.prog 145 #[.string s,.int .i64 n,.int .i64 k] w λe w'=>e=.returned (.string s)/\Below w.heap.size w w':=by
 go_enter Tryz.func145,Tryz.ntmps145
 go_wp2
 all_goals (go_ret;exact⟨rfl,Below.refl _ _⟩)
theorem JKM(l:List UInt8):(⟨l.toArray⟩:ByteArray).data.toList=l:=rfl
theorem JA0(args:List Am.AV)(_q:List Am._w)(r:Am.Res)(h:Am.JEu args _q=some r):Am.J60 Tryz.prog 145 args _q r:=by
 unfold Am.JEu at h;split at h;rename_i bl l n k;obtain⟨x,e,rfl⟩:=Option.map_eq_some_iff.1 h;unfold Am.Jod at e;split at e;rename_i hc;cases e;exact Am.JDQ (xs:=[.s l,.i .i64 n,.i .i64 k]) (vs:=[.string ⟨l.toArray⟩,.int .i64 n,.int .i64 k]) (v:=.string ⟨l.toArray⟩) ⟨_,Tryz.func145,by decide,by decide⟩ rfl rfl λw=>Tryz.put_out _ n k hc w;rename_i hc;split at e;rename_i h2;cases e;refine Am.JDQ (xs:=[.s l,.i .i64 n,.i .i64 k]) (vs:=[.string ⟨l.toArray⟩,.int .i64 n,.int .i64 k]) (v:=.string ⟨(l++Am.J0p n k.toNat).toArray⟩) ⟨_,Tryz.func145,by decide,by decide⟩ rfl rfl λw=>?_;have g:=Tryz.put ⟨l.toArray⟩ n k.toNat (by omega) (by omega) (by rw[Lib.size_eq];exact h2) w;rw[JKM,show((k.toNat:Nat):Int)=k by omega]at g;exact g;cases e;cases h
end Go.Proofs
end
section
namespace Go.Proofs
open Go.Shelf Go.RowKit Go.Lib Go.Sort
def Tryz.ρS:Ren where
 f:=fun
  |6=>121
  |14=>155
  |15=>156
  |20=>184
  |21=>186
  |22=>187
  |23=>188
  |24=>189
  |25=>190
  |26=>191
  |27=>192
  |28=>193
  |29=>194
  |46=>220
  |47=>221
  |48=>222
  |49=>223
  |50=>224
  |57=>241
  |n=>n
 t:=fun
  |0=>0
  |3=>3
  |4=>4
  |5=>5
  |9=>9
  |22=>26
  |24=>64
  |25=>169
  |39=>178
  |45=>249
  |46=>250
  |50=>142
  |53=>197
  |55=>245
  |66=>275
  |70=>279
  |76=>305
  |77=>122
  |n=>n
 g:=λn=>n
set_option maxRecDepth 100000 in
theorem Tryz.laysSort:SlLaysF0.n6 Tryz.prog Tryz.ρS where
 mixed:=by kernel_rfl
 f6:=⟨"slices.SortFunc[[]pagemend/api.Entry,pagemend/api.Entry]",by decide,by kernel_rfl⟩
 f14:=⟨"slices.pdqsortCmpFunc[pagemend/api.Entry]",by decide,by kernel_rfl⟩
 f15:=by kernel_rfl
 f20:=⟨"slices.insertionSortCmpFunc[pagemend/api.Entry]",by decide,by kernel_rfl⟩
 f21:=⟨"slices.heapSortCmpFunc[pagemend/api.Entry]",by decide,by kernel_rfl⟩
 f22:=⟨"slices.breakPatternsCmpFunc[pagemend/api.Entry]",by decide,by kernel_rfl⟩
 f23:=⟨"slices.choosePivotCmpFunc[pagemend/api.Entry]",by decide,by kernel_rfl⟩
 f24:=⟨"slices.reverseRangeCmpFunc[pagemend/api.Entry]",by decide,by kernel_rfl⟩
 f25:=⟨"slices.partialInsertionSortCmpFunc[pagemend/api.Entry]",by decide,by kernel_rfl⟩
 f26:=⟨"slices.partitionEqualCmpFunc[pagemend/api.Entry]",by decide,by kernel_rfl⟩
 f27:=⟨"slices.partitionCmpFunc[pagemend/api.Entry]",by decide,by kernel_rfl⟩
 f28:=by kernel_rfl
 f29:=by kernel_rfl
 f46:=⟨"slices.siftDownCmpFunc[pagemend/api.Entry]",by decide,by kernel_rfl⟩
 f47:=by kernel_rfl
 f48:=by kernel_rfl
 f49:=⟨"slices.medianAdjacentCmpFunc[pagemend/api.Entry]",by decide,by kernel_rfl⟩
 f50:=⟨"slices.medianCmpFunc[pagemend/api.Entry]",by decide,by kernel_rfl⟩
 f57:=⟨"slices.order2CmpFunc[pagemend/api.Entry]",by decide,by kernel_rfl⟩
 t0:=Tryz.underlying0
 a0:=Tryz.isAgg0
 z0:=Tryz.sizeOf0
 v0:=Tryz.zeroValue0
 t3:=Tryz.underlying3
 a3:=Tryz.isAgg3
 z3:=Tryz.sizeOf3
 v3:=Tryz.zeroValue3
 t4:=Tryz.underlying4
 a4:=Tryz.isAgg4
 z4:=Tryz.sizeOf4
 v4:=Tryz.zeroValue4
 t5:=Tryz.underlying5
 a5:=Tryz.isAgg5
 z5:=Tryz.sizeOf5
 v5:=Tryz.zeroValue5
 t9:=Tryz.underlying9
 a9:=Tryz.isAgg9
 z9:=Tryz.sizeOf9
 v9:=Tryz.zeroValue9
 t22:=Tryz.underlying26
 a22:=Tryz.isAgg26
 z22:=Tryz.sizeOf26
 v22:=Tryz.zeroValue26
 t25:=Tryz.underlying169
 a25:=Tryz.isAgg169
 z25:=Tryz.sizeOf169
 v25:=Tryz.zeroValue169
 t39:=Tryz.underlying178
 a39:=Tryz.isAgg178
 z39:=Tryz.sizeOf178
 v39:=Tryz.zeroValue178
 t45:=Tryz.underlying249
 a45:=Tryz.isAgg249
 z45:=Tryz.sizeOf249
 v45:=Tryz.zeroValue249
 t46:=Tryz.underlying250
 a46:=Tryz.isAgg250
 z46:=Tryz.sizeOf250
 v46:=Tryz.zeroValue250
 t50:=Tryz.underlying142
 a50:=Tryz.isAgg142
 z50:=Tryz.sizeOf142
 v50:=Tryz.zeroValue142
 t53:=Tryz.underlying197
 a53:=Tryz.isAgg197
 z53:=Tryz.sizeOf197
 v53:=Tryz.zeroValue197
 t55:=Tryz.underlying245
 a55:=Tryz.isAgg245
 z55:=Tryz.sizeOf245
 v55:=Tryz.zeroValue245
 t66:=Tryz.underlying275
 a66:=Tryz.isAgg275
 z66:=Tryz.sizeOf275
 v66:=Tryz.zeroValue275
 t70:=Tryz.underlying279
 a70:=Tryz.isAgg279
 z70:=Tryz.sizeOf279
 v70:=Tryz.zeroValue279
 t76:=Tryz.underlying305
 a76:=Tryz.isAgg305
 z76:=Tryz.sizeOf305
 v76:=Tryz.zeroValue305
 t77:=Tryz.underlying122
 a77:=Tryz.isAgg122
 z77:=Tryz.sizeOf122
 v77:=Tryz.zeroValue122
set_option maxHeartbeats 1000000 in
theorem Tryz.nan(x:Int)(W:World):Calls Tryz.prog 125 #[.int .i64 x] W λe w'=>e=.returned (.bool false)/\w'=W:=by
 go_enter Tryz.func125,Tryz.ntmps125
 go_wp2
 all_goals (go_ret;exact⟨by simp,rfl⟩)
set_option maxHeartbeats 2000000 in
theorem Tryz.cmpInt(x y:Int)(W:World):Calls Tryz.prog 74 #[.int .i64 x,.int .i64 y] W λe w'=>e=.returned (.int .i64 (Lib.compareInt x y))/\w'=W:=by
 go_enter Tryz.func74,Tryz.ntmps74
 go_wp2_with (go_at_call 125;refine(Tryz.nan _ _).mono ?_;rintro e w' ⟨rfl,rfl⟩)
 all_goals (go_ret;refine⟨?_,rfl⟩;unfold Lib.compareInt;simp_all;try (rw[if_neg (by omega),if_neg (by omega)]))
set_option maxHeartbeats 2000000 in
theorem Tryz.cmpOr(r o cap:Nat)(x y v:Int)(hv:(if x=0 then y else x)=v)(W:World)(h0:W.cell? ⟨r,o,none⟩=some (.int .i64 x))(h1:W.cell? ⟨r,o+1,none⟩=some (.int .i64 y)):
  Calls Tryz.prog 84 #[.slice (some ⟨r,o,none⟩) 2 cap] W λe w'=>e=.returned (.int .i64 v)/\w'=W:=by
 subst hv
 go_enter Tryz.func84,Tryz.ntmps84
 go_wp2
 by_cases g:x=0
 ·subst g;by_cases h:y=0
  ·subst h;refine wp_loop_rounds 3 ?_;rw[rounds_succ]
   go_wp2
   rw[rounds_succ]
   go_wp2
   rw[rounds_succ]
   go_wp2
   go_ret
   exact⟨rfl,rfl⟩
  ·refine wp_loop_rounds 2 ?_;rw[rounds_succ]
   go_wp2
   rw[rounds_succ]
   go_wp2
   go_ret
   exact⟨rfl,rfl⟩
 ·refine wp_loop_rounds 1 ?_;rw[rounds_succ]
  go_wp2
  go_ret
  exact⟨by simp[g],rfl⟩
def CSt(W:World)(x0 g y0 e:Int)(w':World):Prop:=w'.cell? ⟨W.heap.size,0,none⟩=some (.int .i64 x0)/\w'.cell? ⟨W.heap.size,6,none⟩=some (.int .i64 g)/\w'.cell? ⟨W.heap.size+1,0,none⟩=some (.int .i64 y0)/\w'.cell? ⟨W.heap.size+1,6,none⟩=some (.int .i64 e)/\ ∃n os,w'=grow (W.drewN n) os
theorem YH{w:World}{a:Addr}{v:Value}(h:w.cell? a=some v)(o:Obj):(w.alloc o).cell? a=some v:=by rw[<-h];exact World.cell?_of_block (Below.heap_alloc w o a.block (block_lt_of_cell h))
theorem CSt.alloc{W w:World}{x0 g y0 e:Int}(h:CSt W x0 g y0 e w)(o:Obj):CSt W x0 g y0 e (w.alloc o):=by obtain⟨h1,h2,q,j,n,os,k⟩:=h;exact⟨YH h1 o,YH h2 o,YH q o,YH j o,n,_,by rw[alloc_eq_grow,k,grow_grow]⟩
set_option maxRecDepth 100000 in
set_option maxHeartbeats 4000000 in
theorem Tryz.closS(x y:Am.ET)(W:World):Calls Tryz.prog 122 #[.agg (Am.enT x).toArray,.agg (Am.enT y).toArray] W λe w'=>e=.returned (.int .i64 (Am.Jka x y))/\ ∃q _d,w'=grow (W.drewN q) _d:=by
 obtain⟨x0,X,x2,x3,x4,Q,⟨k,_e,⟨R,_c⟩,E,w⟩,C⟩:=x;obtain⟨r,H,S,K,P,M,⟨j,G,⟨L,N⟩,z,F⟩,D⟩:=y;unfold Am.Jka Am.enT;dsimp only;generalize hv:(if Lib.compareInt k j=0 then Lib.compareInt x0 r else Lib.compareInt k j)=v
 go_enter Tryz.func122,Tryz.ntmps122
 go_wp2
 have U: ∀o,o<13-> ∀(A B:Obj),((W.alloc A).alloc B).cell? ⟨W.heap.size,o,none⟩=(W.alloc A).cell? ⟨W.heap.size,o,none⟩:=λo _ A B=>World.cell?_of_block (Below.heap_alloc _ _ _ (by simp));obtain⟨h,g⟩: ∃h,h=(W.alloc (.cells #[.int .i64 x0,.int .i64 X,.int .i64 x2,.int .i64 x3,.int .i64 x4,.int .i64 Q,.int .i64 k,.int .i64 _e,.bool R,.string ⟨_c.toArray⟩,.bool E,.string ⟨w.toArray⟩,.string ⟨C.toArray⟩] 64)).alloc (.cells #[.int .i64 r,.int .i64 H,.int .i64 S,.int .i64 K,.int .i64 P,.int .i64 M,.int .i64 j,.int .i64 G,.bool L,.string ⟨N.toArray⟩,.bool z,.string ⟨F.toArray⟩,.string ⟨D.toArray⟩] 64):=⟨_,rfl⟩;have c0:h.cell? ⟨W.heap.size,0,none⟩=some (.int .i64 x0):=by rw[g];simp
 have c6:h.cell? ⟨W.heap.size,6,none⟩=some (.int .i64 k):=by rw[g];simp
 have _b:h.cell? ⟨W.heap.size+1,0,none⟩=some (.int .i64 r):=by rw[g];simp
 have V:h.cell? ⟨W.heap.size+1,6,none⟩=some (.int .i64 j):=by rw[g];simp
 have T:h=grow W #[(.cells #[.int .i64 x0,.int .i64 X,.int .i64 x2,.int .i64 x3,.int .i64 x4,.int .i64 Q,.int .i64 k,.int .i64 _e,.bool R,.string ⟨_c.toArray⟩,.bool E,.string ⟨w.toArray⟩,.string ⟨C.toArray⟩] 64),(.cells #[.int .i64 r,.int .i64 H,.int .i64 S,.int .i64 K,.int .i64 P,.int .i64 M,.int .i64 j,.int .i64 G,.bool L,.string ⟨N.toArray⟩,.bool z,.string ⟨F.toArray⟩,.string ⟨D.toArray⟩] 64)]:=by rw[g,alloc_eq_grow,alloc_eq_grow,grow_grow];rfl
 rw[<-g];clear g U;have hS:CSt W x0 k r j h.drew:=⟨c0,c6,_b,V,1,_,by rw[T];rfl⟩;clear T
 go_region_held3 (λw':World=>w'.cell? ⟨W.heap.size,0,none⟩=some (.int .i64 x0)/\w'.cell? ⟨W.heap.size,6,none⟩=some (.int .i64 k)/\w'.cell? ⟨W.heap.size+1,0,none⟩=some (.int .i64 r)/\w'.cell? ⟨W.heap.size+1,6,none⟩=some (.int .i64 j)/\ ∃n os,w'=grow (W.drewN n) os)
  (first|assumption|exact hS|exact CSt.alloc (by assumption) _)
  (first
   |(go_at_call 74;refine(Tryz.cmpInt _ _ _).mono ?_;rintro e w' ⟨rfl,rfl⟩)
   |(go_at_call 84;refine(Tryz.cmpOr _ _ _ (Lib.compareInt k j) (Lib.compareInt x0 r) v hv _ (by simp) (by simp)).mono ?_;rintro e w' ⟨rfl,rfl⟩))
 all_goals
  rename_i _a;obtain⟨_,_,_,_,n,os,hw⟩:=_a
  go_wp2
  go_ret
  exact⟨rfl,n,os,hw⟩
theorem Tryz.ltS{x y:Am.ET}(hx:Am.J9w x=true)(hy:Am.J9w y=true):ltOf Am.Jka x y=decide (Am.J8g x<Am.J8g y):=by
 unfold Am.J9w at hx hy;unfold ltOf Am.Jka Am.J8g Lib.compareInt;grind
theorem Tryz.swoS:SWO (ltOf Am.Jka) where
 irrefl x:=by unfold ltOf Am.Jka Lib.compareInt;grind
 trans x y z h1 h2:=by unfold ltOf Am.Jka Lib.compareInt at*;grind
 ntrans x y z h1 h2:=by unfold ltOf Am.Jka Lib.compareInt at*;grind
set_option maxHeartbeats 2000000 in
theorem Tryz.ins0(a:Option Addr)(cap:Nat)(g:Value)(w:World):Calls Tryz.prog 184 #[.slice a 0 cap,.int .i64 0,.int .i64 0,g] w λe w'=>e=.returned (.tuple #[])/\w'=w:=by
 go_enter Tryz.func184,Tryz.ntmps184
 go_wp2
 refine wp_loop_rounds 1 ?_;rw[rounds_succ]
 go_wp2
 go_end0
 exact⟨rfl,rfl⟩
set_option maxHeartbeats 2000000 in
theorem Tryz.pdq0(a:Option Addr)(cap:Nat)(g:Int)(h:Value)(w:World):Calls Tryz.prog 155 #[.slice a 0 cap,.int .i64 0,.int .i64 0,.int .i64 g,h] w λe w'=>e=.returned (.tuple #[])/\w'=w:=by
 go_enter Tryz.func155,Tryz.ntmps155
 go_wp2
 refine wp_loop_rounds 1 ?_;rw[rounds_succ]
 go_wp2_with (go_at_call 184;refine(Tryz.ins0 _ _ _ _).mono ?_;rintro e w' ⟨rfl,rfl⟩)
 (try simp only[Exit.inBlock,Exit.then]);refine bodyPost_ret (results_none rfl _ _ _) rfl ?_
 exact⟨rfl,rfl⟩
set_option maxHeartbeats 2000000 in
theorem Tryz.sort0(a:Option Addr)(cap:Nat)(g:Value)(w:World):Calls Tryz.prog 121 #[.slice a 0 cap,g] w λe w'=>e=.returned (.tuple #[])/\w'=w:=by
 have hl:=Any.bits_Len (SlLaysF0.n15.bits (P:=Tryz.prog) (ρ:=Tryz.ρS) {Tryz.laysSort with}) 0 w (by omega) (by omega);change Calls Tryz.prog 156 _ _ _ at hl
 go_enter Tryz.func121,Tryz.ntmps121
 go_wp2_with (first|(go_at_call 156;refine hl.mono ?_;rintro e w' ⟨rfl,rfl⟩)|(go_at_call 155;refine(Tryz.pdq0 _ _ _ _ _).mono ?_;rintro e w' ⟨rfl,rfl⟩))
 go_end0
 exact⟨rfl,rfl⟩
theorem J9q(args:List Am.AV)(_q:List Am._w)(r:Am.Res)(h:Am.Jna 13 122 (Am.Jif Am.J3 Am.J9w) (Am._A Am.J3) Am.J8g args _q=some r):Am.J60 Tryz.prog 121 args _q r:=by
 have C: ∀args w,(callFunc 122 args).run Tryz.prog w=.ok (.enter 122 args) w:=enters_of Tryz.func122 (by kernel_rfl) rfl;refine Am.JII (α:=Am.ET) (enc:=Am.enT) (N:=λx=>Am.J9w x=true) ⟨_,Tryz.func121,by decide,by decide⟩ (by decide) (λrow x h=>(Am.Jue h).1) (λrow x h=>(Am.Jue h).2) (λx=>rfl) (λx=>rfl)
  (λa cap w=>Tryz.sort0 a cap _ w)
  (λblk cap d w E D hb hs=>?_) args _q r h
 refine(AnyQ.slices_SortFunc Tryz.laysSort 13 Tryz.isAgg64 Tryz.sizeOf64 Am.enT (λ_=>rfl) (λx v B=>by simp[Am.enT]at B;rcases B with rfl|rfl|rfl|rfl|rfl|rfl|rfl|rfl|rfl|rfl|rfl|rfl|rfl<;>rfl) Am.Jka Tryz.swoS 122 #[] blk 0 cap d w C (λ_ _ _ _ x y=>Tryz.closS x y _) D hb hs).mono ?_;rintro e w' ⟨h1,g,n,os,hp,k,G⟩;refine⟨h1,g,n,os,hp,?_,G⟩;have A: ∀i,i<d.size->Am.J9w g[i]! =true:=λi hi=>by
  have hs:=hp.1;have h2:g[i]! ∈(g.extract 0 d.size).toList:=by rw[show d.size=g.size from hs.symm,Array.extract_size,getElem!_pos g i (by omega)];exact Array.mem_toList_iff.2 (Array.getElem_mem _)
  have z:=hp.2.2.mem_iff.1 h2;rw[Array.extract_size]at z;exact E _ (Array.mem_toList_iff.1 z)
 intro i j F H o;have q:=k i j F H o;rw[Tryz.ltS (A j o) (A i (by omega))]at q;exact q
end Go.Proofs
end
