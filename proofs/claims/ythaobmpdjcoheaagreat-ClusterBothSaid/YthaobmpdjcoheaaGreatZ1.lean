/- Own texts of this claim, part 1: short, merged. -/
import Derived.Below
import Derived.ProofKit
import Derived.Deep.Slices
import Derived.Laws.AppendOwn
import Derived.Laws.BitsLemmas
import Derived.Test.YthaobmpdjcoheaaGreatZ0
set_option maxRecDepth 100000
set_option maxHeartbeats 40000000
set_option linter.defProp false
set_option linter.unusedVariables false
set_option linter.unusedSimpArgs false
namespace Go.Proofs.YthaobmpdjcoheaaGreat
namespace bf
abbrev ayp:=b_.mk c4
abbrev ayH:=b_.mk ds
abbrev ayQ:=b_.mk oC
abbrev ayU:=b_.mk HF
abbrev azb:=b_.mk KW
abbrev ayw:=b_.mk qm
abbrev ayA:=b_.mk yL
abbrev ayD:=b_.mk aDi
abbrev ayI:=b_.mk HE
abbrev ayJ:=b_.mk abX
abbrev ayM:=b_.mk Rd
abbrev ayN:=b_.mk Cb
abbrev ayO:=b_.mk abZ
abbrev ayP:=b_.mk Ev
abbrev ayR:=b_.mk w0
abbrev ayS:=b_.mk aDn
abbrev ayT:=b_.mk aDo
abbrev ayV:=b_.mk ab0
abbrev ayW:=b_.mk yM
abbrev ayX:=b_.mk ab1
abbrev ayY:=b_.mk Ew
abbrev ayZ:=b_.mk Ex
abbrev ay0:=b_.mk HG
abbrev ay1:=b_.mk ab2
abbrev ay2:=b_.mk sb
abbrev ay3:=b_.mk ab3
abbrev ay4:=b_.mk ab4
abbrev ay5:=b_.mk ab5
abbrev ay6:=b_.mk aDp
abbrev ay7:=b_.mk Ey
abbrev ay8:=b_.mk Re
abbrev ay9:=b_.mk ab6
abbrev aza:=b_.mk Rf
abbrev azc:=b_.mk Ez
abbrev azd:=b_.mk HH
abbrev aze:=b_.mk KX
abbrev azf:=b_.mk EA
abbrev azg:=b_.mk Rg
abbrev azh:=b_.mk ab7
abbrev azi:=b_.mk KY
abbrev azj:=b_.mk ab8
abbrev ax1:=b_.mk abQ
abbrev ax2:=b_.mk aC4
abbrev ax3:=b_.mk aC5
abbrev ax4:=b_.mk Eu
abbrev ax5:=b_.mk KU
abbrev ax6:=b_.mk abR
abbrev ax7:=b_.mk aC6
abbrev ax8:=b_.mk oB
abbrev ax9:=b_.mk r_
abbrev aya:=b_.mk aC7
abbrev ayb:=b_.mk aC8
abbrev ayc:=b_.mk aC9
abbrev ayd:=b_.mk aDa
abbrev aye:=b_.mk aDb
abbrev ayf:=b_.mk yK
abbrev ayg:=b_.mk aDc
abbrev ayh:=b_.mk aDd
abbrev ayi:=b_.mk abS
abbrev ayj:=b_.mk aDe
abbrev ayk:=b_.mk vr
abbrev ayl:=b_.mk vs
abbrev aym:=b_.mk wZ
abbrev ayn:=b_.mk sa
abbrev ayo:=b_.mk lT
abbrev ayq:=b_.mk KV
abbrev ayr:=b_.mk Ra
abbrev ays:=b_.mk Rb
abbrev ayt:=b_.mk aDf
abbrev ayu:=b_.mk abT
abbrev ayv:=b_.mk aDg
abbrev ayx:=b_.mk aDh
abbrev ayy:=b_.mk abU
abbrev ayz:=b_.mk abV
abbrev ayB:=b_.mk abW
abbrev ayC:=b_.mk Rc
abbrev ayE:=b_.mk aDj
abbrev ayF:=b_.mk aDk
abbrev ayG:=b_.mk aDl
abbrev ayK:=b_.mk abY
abbrev ayL:=b_.mk aDm
abbrev axG:=eH.mk aaJ
abbrev axM:=eH.mk Kg
abbrev axP:=eH.mk aaW
abbrev axT:=eH.mk aaZ
abbrev axN:=eH.mk Qr
abbrev axO:=eH.mk aaV
abbrev axQ:=eH.mk Qs
abbrev axR:=eH.mk aaX
abbrev axS:=eH.mk aaY
abbrev axU:=eH.mk Qt
abbrev axV:=eH.mk Hi
abbrev axW:=eH.mk Kh
abbrev axX:=eH.mk Ki
abbrev axY:=eH.mk Qu
abbrev axZ:=eH.mk Qv
abbrev ax0:=eH.mk Kj
abbrev axt:=eH.mk Ke
abbrev axu:=eH.mk aaz
abbrev axv:=eH.mk aAI
abbrev axw:=eH.mk Qm
abbrev axx:=eH.mk BT
abbrev axy:=eH.mk wI
abbrev axz:=eH.mk aaB
abbrev axA:=eH.mk aaC
abbrev axB:=eH.mk Qn
abbrev axC:=eH.mk Qo
abbrev axD:=eH.mk aaI
abbrev axE:=eH.mk Qp
abbrev axF:=eH.mk wJ
abbrev axH:=eH.mk Qq
abbrev axI:=eH.mk Hh
abbrev axJ:=eH.mk aaS
abbrev axK:=eH.mk aaT
abbrev axL:=eH.mk Kf
abbrev au2:=bs Tryz.func7
abbrev ava:=bs Tryz.func8
abbrev avl:=bs Tryz.func9
abbrev ar6:=bs Tryz.func10
abbrev asd:=bs Tryz.func11
abbrev aso:=bs Tryz.func12
abbrev asx:=bs Tryz.func13
abbrev asH:=bs Tryz.func14
abbrev asS:=bs Tryz.func15
abbrev as3:=bs Tryz.func16
abbrev atb:=bs Tryz.func17
abbrev atk:=bs Tryz.func18
abbrev atu:=bs Tryz.func19
abbrev atB:=bs Tryz.func20
abbrev atC:=bs Tryz.func21
abbrev atK:=bs Tryz.func22
abbrev atP:=bs Tryz.func23
abbrev atY:=bs Tryz.func24
abbrev at6:=bs Tryz.func25
abbrev auh:=bs Tryz.func26
abbrev aul:=bs Tryz.func27
abbrev aum:=bs Tryz.func28
abbrev aun:=bs Tryz.func29
abbrev auo:=bs Tryz.func30
abbrev aup:=bs Tryz.func31
abbrev auq:=bs Tryz.func32
abbrev aur:=bs Tryz.func33
abbrev aus:=bs Tryz.func34
abbrev aut:=bs Tryz.func35
abbrev auu:=bs Tryz.func36
abbrev auv:=bs Tryz.func37
abbrev auw:=bs Tryz.func38
abbrev auy:=bs Tryz.func39
abbrev auz:=bs Tryz.func40
abbrev auA:=bs Tryz.func41
abbrev auB:=bs Tryz.func42
abbrev auC:=bs Tryz.func43
abbrev auD:=bs Tryz.func44
abbrev auE:=bs Tryz.func45
abbrev auF:=bs Tryz.func46
abbrev auG:=bs Tryz.func47
abbrev auH:=bs Tryz.func48
abbrev auI:=bs Tryz.func49
abbrev auJ:=bs Tryz.func50
abbrev auK:=bs Tryz.func51
abbrev auL:=bs Tryz.func52
abbrev auM:=bs Tryz.func53
abbrev auN:=bs Tryz.func54
abbrev auO:=bs Tryz.func55
abbrev auP:=bs Tryz.func56
abbrev auQ:=bs Tryz.func57
abbrev auR:=bs Tryz.func58
abbrev auS:=bs Tryz.func59
abbrev auT:=bs Tryz.func60
abbrev auU:=bs Tryz.func61
abbrev auV:=bs Tryz.func62
abbrev auW:=bs Tryz.func63
abbrev auX:=bs Tryz.func64
abbrev auY:=bs Tryz.func65
abbrev auZ:=bs Tryz.func66
abbrev au0:=bs Tryz.func67
abbrev au1:=bs Tryz.func69
abbrev au3:=bs Tryz.func71
abbrev au4:=bs Tryz.func73
abbrev au5:=bs Tryz.func74
abbrev au6:=bs Tryz.func76
abbrev au7:=bs Tryz.func77
abbrev au8:=bs Tryz.func78
abbrev au9:=bs Tryz.func79
abbrev avb:=bs Tryz.func80
abbrev avc:=bs Tryz.func81
abbrev avd:=bs Tryz.func82
abbrev ave:=bs Tryz.func83
abbrev avf:=bs Tryz.func84
abbrev avg:=bs Tryz.func85
abbrev avh:=bs Tryz.func86
abbrev avi:=bs Tryz.func87
abbrev avj:=bs Tryz.func88
abbrev avk:=bs Tryz.func89
abbrev avm:=bs Tryz.func90
abbrev avn:=bs Tryz.func91
abbrev avo:=bs Tryz.func92
abbrev avp:=bs Tryz.func93
abbrev avq:=bs Tryz.func94
abbrev avr:=bs Tryz.func95
abbrev avs:=bs Tryz.func96
abbrev avt:=bs Tryz.func97
abbrev avu:=bs Tryz.func98
abbrev avv:=bs Tryz.func99
abbrev ar7:=bs Tryz.func100
abbrev ar8:=bs Tryz.func101
abbrev ar9:=bs Tryz.func103
abbrev asa:=bs Tryz.func105
abbrev asb:=bs Tryz.func106
abbrev asc:=bs Tryz.func107
abbrev ase:=bs Tryz.func111
abbrev asf:=bs Tryz.func112
abbrev asg:=bs Tryz.func113
abbrev ash:=bs Tryz.func114
abbrev asi:=bs Tryz.func115
abbrev asj:=bs Tryz.func116
abbrev asl:=bs Tryz.func117
abbrev asm:=bs Tryz.func118
abbrev asn:=bs Tryz.func119
abbrev asp:=bs Tryz.func121
abbrev asq:=bs Tryz.func123
abbrev asr:=bs Tryz.func124
abbrev ass:=bs Tryz.func125
abbrev ast:=bs Tryz.func126
abbrev asu:=bs Tryz.func127
abbrev asv:=bs Tryz.func128
abbrev asw:=bs Tryz.func129
abbrev asy:=bs Tryz.func130
abbrev asz:=bs Tryz.func131
abbrev asA:=bs Tryz.func132
abbrev asB:=bs Tryz.func133
abbrev asC:=bs Tryz.func134
abbrev asD:=bs Tryz.func135
abbrev asE:=bs Tryz.func136
abbrev asF:=bs Tryz.func138
abbrev asG:=bs Tryz.func139
abbrev asI:=bs Tryz.func140
abbrev asJ:=bs Tryz.func141
abbrev asK:=bs Tryz.func142
abbrev asL:=bs Tryz.func143
abbrev asM:=bs Tryz.func144
abbrev asN:=bs Tryz.func145
abbrev asO:=bs Tryz.func146
abbrev asP:=bs Tryz.func147
abbrev asQ:=bs Tryz.func148
abbrev asR:=bs Tryz.func149
abbrev asT:=bs Tryz.func150
abbrev asU:=bs Tryz.func151
abbrev asV:=bs Tryz.func152
abbrev asW:=bs Tryz.func153
abbrev asX:=bs Tryz.func154
abbrev asY:=bs Tryz.func155
abbrev asZ:=bs Tryz.func156
abbrev as0:=bs Tryz.func157
abbrev as1:=bs Tryz.func158
abbrev as2:=bs Tryz.func159
abbrev as4:=bs Tryz.func160
abbrev as5:=bs Tryz.func161
abbrev as6:=bs Tryz.func162
abbrev as7:=bs Tryz.func166
abbrev as8:=bs Tryz.func167
abbrev as9:=bs Tryz.func168
abbrev ata:=bs Tryz.func169
abbrev atc:=bs Tryz.func170
abbrev atd:=bs Tryz.func171
abbrev ate:=bs Tryz.func172
abbrev atf:=bs Tryz.func173
abbrev atg:=bs Tryz.func174
abbrev ath:=bs Tryz.func175
abbrev ati:=bs Tryz.func177
abbrev atj:=bs Tryz.func179
abbrev atl:=bs Tryz.func180
abbrev atm:=bs Tryz.func181
abbrev atn:=bs Tryz.func182
abbrev ato:=bs Tryz.func183
abbrev atp:=bs Tryz.func184
abbrev atq:=bs Tryz.func186
abbrev atr:=bs Tryz.func187
abbrev ats:=bs Tryz.func188
abbrev att:=bs Tryz.func189
abbrev atv:=bs Tryz.func191
abbrev atw:=bs Tryz.func193
abbrev atx:=bs Tryz.func195
abbrev aty:=bs Tryz.func196
abbrev atz:=bs Tryz.func198
abbrev atA:=bs Tryz.func199
abbrev atD:=bs Tryz.func210
abbrev atE:=bs Tryz.func211
abbrev atF:=bs Tryz.func212
abbrev atG:=bs Tryz.func213
abbrev atH:=bs Tryz.func214
abbrev atI:=bs Tryz.func215
abbrev atJ:=bs Tryz.func216
abbrev atL:=bs Tryz.func224
abbrev atM:=bs Tryz.func226
abbrev atN:=bs Tryz.func228
abbrev atO:=bs Tryz.func229
abbrev atQ:=bs Tryz.func230
abbrev atS:=bs Tryz.func231
abbrev atT:=bs Tryz.func232
abbrev atU:=bs Tryz.func233
abbrev atV:=bs Tryz.func234
abbrev atW:=bs Tryz.func235
abbrev atX:=bs Tryz.func236
abbrev atZ:=bs Tryz.func243
abbrev at0:=bs Tryz.func244
abbrev at1:=bs Tryz.func245
abbrev at2:=bs Tryz.func246
abbrev at3:=bs Tryz.func247
abbrev at4:=bs Tryz.func248
abbrev at5:=bs Tryz.func249
abbrev at7:=bs Tryz.func250
abbrev aua:=bs Tryz.func251
abbrev aub:=bs Tryz.func252
abbrev auc:=bs Tryz.func253
abbrev aud:=bs Tryz.func254
abbrev aue:=bs Tryz.func256
abbrev auf:=bs Tryz.func258
abbrev aug:=bs Tryz.func259
abbrev aui:=bs Tryz.func260
abbrev auj:=bs Tryz.func261
abbrev auk:=bs Tryz.func262
abbrev azF:=bb.mk Tryz.underlying2
abbrev az0:=bb.mk Tryz.underlying3
abbrev az9:=bb.mk Tryz.underlying4
abbrev aAc:=bb.mk Tryz.underlying5
abbrev aAt:=bb.mk Tryz.underlying9
abbrev azG:=bb.mk Tryz.underlying20
abbrev azN:=bb.mk Tryz.underlying22
abbrev azS:=bb.mk Tryz.underlying24
abbrev azT:=bb.mk Tryz.underlying25
abbrev azW:=bb.mk Tryz.underlying26
abbrev az2:=bb.mk Tryz.underlying31
abbrev az3:=bb.mk Tryz.underlying32
abbrev az6:=bb.mk Tryz.underlying33
abbrev az7:=bb.mk Tryz.underlying35
abbrev az8:=bb.mk Tryz.underlying36
abbrev aAa:=bb.mk Tryz.underlying46
abbrev aAb:=bb.mk Tryz.underlying47
abbrev aAd:=bb.mk Tryz.underlying50
abbrev aAe:=bb.mk Tryz.underlying53
abbrev aAf:=bb.mk Tryz.underlying56
abbrev aAg:=bb.mk Tryz.underlying60
abbrev aAh:=bb.mk Tryz.underlying62
abbrev aAi:=bb.mk Tryz.underlying64
abbrev aAj:=bb.mk Tryz.underlying67
abbrev aAk:=bb.mk Tryz.underlying68
abbrev aAl:=bb.mk Tryz.underlying69
abbrev aAm:=bb.mk Tryz.underlying70
abbrev aAn:=bb.mk Tryz.underlying72
abbrev aAo:=bb.mk Tryz.underlying73
abbrev aAp:=bb.mk Tryz.underlying79
abbrev aAq:=bb.mk Tryz.underlying83
abbrev aAr:=bb.mk Tryz.underlying85
abbrev aAs:=bb.mk Tryz.underlying87
abbrev aAu:=bb.mk Tryz.underlying92
abbrev aAv:=bb.mk Tryz.underlying93
abbrev aAw:=bb.mk Tryz.underlying97
abbrev aAx:=bb.mk Tryz.underlying98
abbrev aAy:=bb.mk Tryz.underlying99
abbrev azk:=bb.mk Tryz.underlying101
abbrev azl:=bb.mk Tryz.underlying104
abbrev azm:=bb.mk Tryz.underlying111
abbrev azn:=bb.mk Tryz.underlying114
abbrev azo:=bb.mk Tryz.underlying135
abbrev azp:=bb.mk Tryz.underlying137
abbrev azq:=bb.mk Tryz.underlying142
abbrev azr:=bb.mk Tryz.underlying146
abbrev azs:=bb.mk Tryz.underlying150
abbrev azt:=bb.mk Tryz.underlying161
abbrev azu:=bb.mk Tryz.underlying173
abbrev azv:=bb.mk Tryz.underlying175
abbrev azw:=bb.mk Tryz.underlying178
abbrev azx:=bb.mk Tryz.underlying180
abbrev azy:=bb.mk Tryz.underlying182
abbrev azz:=bb.mk Tryz.underlying185
abbrev azA:=bb.mk Tryz.underlying189
abbrev azB:=bb.mk Tryz.underlying190
abbrev azC:=bb.mk Tryz.underlying194
abbrev azD:=bb.mk Tryz.underlying195
abbrev azE:=bb.mk Tryz.underlying197
abbrev azH:=bb.mk Tryz.underlying210
abbrev azI:=bb.mk Tryz.underlying211
abbrev azJ:=bb.mk Tryz.underlying212
abbrev azK:=bb.mk Tryz.underlying214
abbrev azL:=bb.mk Tryz.underlying216
abbrev azM:=bb.mk Tryz.underlying218
abbrev azO:=bb.mk Tryz.underlying223
abbrev azP:=bb.mk Tryz.underlying232
abbrev azQ:=bb.mk Tryz.underlying236
abbrev azR:=bb.mk Tryz.underlying238
abbrev azU:=bb.mk Tryz.underlying257
abbrev azV:=bb.mk Tryz.underlying259
abbrev azX:=bb.mk Tryz.underlying270
abbrev azY:=bb.mk Tryz.underlying278
abbrev azZ:=bb.mk Tryz.underlying292
abbrev az1:=bb.mk Tryz.underlying308
abbrev az4:=bb.mk Tryz.underlying326
abbrev az5:=bb.mk Tryz.underlying328
abbrev awG:=cE 0 0 Tryz.underlying24 ds
abbrev awH:=cE 1 1 Tryz.underlying24 qm
abbrev awI:=cE 2 2 Tryz.underlying24 qm
abbrev awJ:=cE 3 3 Tryz.underlying24 c4
abbrev awR:=cE 0 0 Tryz.underlying31 ds
abbrev awS:=cE 1 1 Tryz.underlying31 ds
abbrev awT:=cE 2 2 Tryz.underlying31 ds
abbrev awU:=cE 3 3 Tryz.underlying31 c4
abbrev awX:=cE 0 0 Tryz.underlying35 ds
abbrev awY:=cE 1 1 Tryz.underlying35 ds
abbrev awZ:=cE 2 2 Tryz.underlying35 ds
abbrev aw0:=cE 3 3 Tryz.underlying35 c4
abbrev aw1:=cE 4 4 Tryz.underlying35 HE
abbrev aw2:=cE 5 8 Tryz.underlying35 abX
abbrev aw3:=cE 6 9 Tryz.underlying35 Rd
abbrev aw4:=cE 0 0 Tryz.underlying53 ds
abbrev aw5:=cE 1 1 Tryz.underlying53 Ev
abbrev aw6:=cE 2 2 Tryz.underlying53 c4
abbrev aw7:=cE 0 0 Tryz.underlying60 ds
abbrev aw8:=cE 1 1 Tryz.underlying60 ds
abbrev aw9:=cE 2 2 Tryz.underlying60 c4
abbrev axa:=cE 3 3 Tryz.underlying60 oC
abbrev axb:=cE 0 0 Tryz.underlying62 ds
abbrev axc:=cE 1 1 Tryz.underlying62 Ew
abbrev axd:=cE 2 5 Tryz.underlying62 oC
abbrev axe:=cE 3 6 Tryz.underlying62 c4
abbrev axf:=cE 1 1 Tryz.underlying64 ds
abbrev axg:=cE 2 2 Tryz.underlying64 ds
abbrev axh:=cE 3 3 Tryz.underlying64 Ex
abbrev axi:=cE 0 0 Tryz.underlying67 ab2
abbrev axj:=cE 0 0 Tryz.underlying72 sb
abbrev axk:=cE 1 1 Tryz.underlying72 qm
abbrev axl:=cE 2 2 Tryz.underlying72 c4
abbrev axm:=cE 3 3 Tryz.underlying72 ab3
abbrev axn:=cE 4 4 Tryz.underlying72 ab4
abbrev axo:=cE 5 5 Tryz.underlying72 ab5
abbrev axp:=cE 0 0 Tryz.underlying85 c4
abbrev axq:=cE 1 1 Tryz.underlying85 Ey
abbrev axr:=cE 0 0 Tryz.underlying87 ds
abbrev axs:=cE 1 1 Tryz.underlying87 c4
abbrev avw:=cE 0 0 Tryz.underlying101 Ez
abbrev avx:=cE 1 1 Tryz.underlying101 c4
abbrev avy:=cE 2 2 Tryz.underlying101 HH
abbrev avz:=cE 3 3 Tryz.underlying101 KX
abbrev avA:=cE 4 4 Tryz.underlying101 EA
abbrev avB:=cE 5 5 Tryz.underlying101 Rg
abbrev avC:=cE 6 6 Tryz.underlying101 ab7
abbrev avD:=cE 7 7 Tryz.underlying101 KY
abbrev avE:=cE 8 8 Tryz.underlying101 ab8
abbrev avF:=cE 0 0 Tryz.underlying104 Ev
abbrev avG:=cE 1 1 Tryz.underlying104 c4
abbrev avH:=cE 0 0 Tryz.underlying114 yL
abbrev avI:=cE 1 4 Tryz.underlying114 c4
abbrev avJ:=cE 2 5 Tryz.underlying114 Eu
abbrev avK:=cE 3 6 Tryz.underlying114 KU
abbrev avL:=cE 4 7 Tryz.underlying114 KY
abbrev avM:=cE 5 8 Tryz.underlying114 ab0
abbrev avN:=cE 0 0 Tryz.underlying135 Ew
abbrev avO:=cE 1 4 Tryz.underlying135 c4
abbrev avP:=cE 2 5 Tryz.underlying135 c4
abbrev avQ:=cE 0 0 Tryz.underlying137 c4
abbrev avR:=cE 1 1 Tryz.underlying137 c4
abbrev avS:=cE 0 0 Tryz.underlying142 ds
abbrev avT:=cE 1 1 Tryz.underlying142 c4
abbrev avU:=cE 2 2 Tryz.underlying142 ds
abbrev avV:=cE 3 3 Tryz.underlying142 ds
abbrev avW:=cE 4 4 Tryz.underlying142 c4
abbrev avX:=cE 5 5 Tryz.underlying142 oC
abbrev avY:=cE 0 0 Tryz.underlying150 Rg
abbrev avZ:=cE 1 1 Tryz.underlying150 abZ
abbrev av0:=cE 0 0 Tryz.underlying161 ds
abbrev av1:=cE 1 1 Tryz.underlying161 Ex
abbrev av2:=cE 0 0 Tryz.underlying173 c4
abbrev av3:=cE 1 1 Tryz.underlying173 c4
abbrev av4:=cE 2 2 Tryz.underlying173 c4
abbrev av5:=cE 3 3 Tryz.underlying173 oC
abbrev av6:=cE 0 0 Tryz.underlying175 yK
abbrev av7:=cE 1 4 Tryz.underlying175 qm
abbrev av8:=cE 2 5 Tryz.underlying175 c4
abbrev av9:=cE 3 6 Tryz.underlying175 c4
abbrev awa:=cE 0 0 Tryz.underlying178 ds
abbrev awb:=cE 1 1 Tryz.underlying178 ds
abbrev awc:=cE 2 2 Tryz.underlying178 ab1
abbrev awd:=cE 3 3 Tryz.underlying178 KY
abbrev awe:=cE 0 0 Tryz.underlying182 abS
abbrev awf:=cE 1 1 Tryz.underlying182 ds
abbrev awg:=cE 2 2 Tryz.underlying182 oC
abbrev awh:=cE 3 3 Tryz.underlying182 ds
abbrev awi:=cE 4 4 Tryz.underlying182 Rd
abbrev awj:=cE 0 0 Tryz.underlying197 wZ
abbrev awk:=cE 1 1 Tryz.underlying197 sa
abbrev awl:=cE 2 2 Tryz.underlying197 c4
abbrev awm:=cE 3 3 Tryz.underlying197 qm
abbrev awn:=cE 4 4 Tryz.underlying197 KW
abbrev awo:=cE 0 0 Tryz.underlying210 oC
abbrev awp:=cE 1 1 Tryz.underlying210 oC
abbrev awq:=cE 2 2 Tryz.underlying210 c4
abbrev awr:=cE 0 0 Tryz.underlying214 HE
abbrev aws:=cE 1 4 Tryz.underlying214 Ra
abbrev awt:=cE 2 10 Tryz.underlying214 Rb
abbrev awu:=cE 3 12 Tryz.underlying214 Ev
abbrev awv:=cE 4 13 Tryz.underlying214 c4
abbrev aww:=cE 0 0 Tryz.underlying218 abT
abbrev awx:=cE 1 1 Tryz.underlying218 c4
abbrev awy:=cE 2 2 Tryz.underlying218 c4
abbrev awz:=cE 0 0 Tryz.underlying223 c4
abbrev awA:=cE 0 0 Tryz.underlying236 ds
abbrev awB:=cE 1 1 Tryz.underlying236 ds
abbrev awC:=cE 0 0 Tryz.underlying238 abU
abbrev awD:=cE 1 2 Tryz.underlying238 HH
abbrev awE:=cE 2 3 Tryz.underlying238 ds
abbrev awF:=cE 3 4 Tryz.underlying238 oC
abbrev awK:=cE 0 0 Tryz.underlying257 vr
abbrev awL:=cE 1 1 Tryz.underlying257 ds
abbrev awM:=cE 0 0 Tryz.underlying259 w0
abbrev awN:=cE 0 0 Tryz.underlying278 vr
abbrev awO:=cE 1 1 Tryz.underlying278 ds
abbrev awP:=cE 0 0 Tryz.underlying292 c4
abbrev awQ:=cE 1 1 Tryz.underlying292 c4
abbrev awV:=cE 0 0 Tryz.underlying328 abY
abbrev awW:=cE 1 1 Tryz.underlying328 c4
attribute [instance] ayp ayH ayQ ayU azb ayw ayA ayD ayI ayJ ayM ayN ayO ayP ayR ayS ayT ayV ayW ayX ayY ayZ ay0 ay1 ay2 ay3 ay4 ay5 ay6 ay7 ay8 ay9 aza azc azd aze azf azg azh azi azj ax1 ax2 ax3 ax4 ax5 ax6 ax7 ax8 ax9 aya ayb ayc ayd aye ayf ayg ayh ayi ayj ayk ayl aym ayn ayo ayq ayr ays ayt ayu ayv ayx ayy ayz ayB ayC ayE ayF ayG ayK ayL axG axM axP axT axN axO axQ axR axS axU axV axW axX axY axZ ax0 axt axu axv axw axx axy axz axA axB axC axD axE axF axH axI axJ axK axL au2 ava avl ar6 asd aso asx asH asS as3 atb atk atu atB atC atK atP atY at6 auh aul aum aun auo aup auq aur aus aut auu auv auw auy auz auA auB auC auD auE auF auG auH auI auJ auK auL auM auN auO auP auQ auR auS auT auU auV auW auX auY auZ au0 au1 au3 au4 au5 au6 au7 au8 au9 avb avc avd ave avf avg avh avi avj avk avm avn avo avp avq avr avs avt avu avv ar7 ar8 ar9 asa asb asc ase asf asg ash asi asj asl asm asn asp asq asr ass ast asu asv asw asy asz asA asB asC asD asE asF asG asI asJ asK asL asM asN asO asP asQ asR asT asU asV asW asX asY asZ as0 as1 as2 as4 as5 as6 as7 as8 as9 ata atc atd ate atf atg ath ati atj atl atm atn ato atp atq atr ats att atv atw atx aty atz atA atD atE atF atG atH atI atJ atL atM atN atO atQ atS atT atU atV atW atX atZ at0 at1 at2 at3 at4 at5 at7 aua aub auc aud aue auf aug aui auj auk azF az0 az9 aAc aAt azG azN azS azT azW az2 az3 az6 az7 az8 aAa aAb aAd aAe aAf aAg aAh aAi aAj aAk aAl aAm aAn aAo aAp aAq aAr aAs aAu aAv aAw aAx aAy azk azl azm azn azo azp azq azr azs azt azu azv azw azx azy azz azA azB azC azD azE azH azI azJ azK azL azM azO azP azQ azR azU azV azX azY azZ az1 az4 az5 awG awH awI awJ awR awS awT awU awX awY awZ aw0 aw1 aw2 aw3 aw4 aw5 aw6 aw7 aw8 aw9 axa axb axc axd axe axf axg axh axi axj axk axl axm axn axo axp axq axr axs avw avx avy avz avA avB avC avD avE avF avG avH avI avJ avK avL avM avN avO avP avQ avR avS avT avU avV avW avX avY avZ av0 av1 av2 av3 av4 av5 av6 av7 av8 av9 awa awb awc awd awe awf awg awh awi awj awk awl awm awn awo awp awq awr aws awt awu awv aww awx awy awz awA awB awC awD awE awF awK awL awM awN awO awP awQ awV awW
theorem aFr{p:Prop}(h:p:=by first | exact iL rfl rfl rfl | exact hg rfl rfl rfl | exact me rfl rfl rfl | exact rz rfl rfl | exact La rfl rfl rfl | exact vA rfl rfl rfl | exact HQ rfl rfl rfl | exact pg rfl rfl rfl | exact yX rfl rfl rfl | exact RT rfl rfl rfl | exact sh rfl bb.out rfl rfl | exact Ld rfl bb.out rfl rfl | exact adt rfl rfl rfl | exact adK rfl rfl rfl | exact RP rfl bb.out rfl rfl | exact RU rfl bb.out rfl rfl | exact ady rfl (by decide) rfl rfl | exact K_ rfl rfl rfl | exact Le rfl rfl rfl | exact R3 rfl rfl rfl | exact acO rfl rfl rfl | exact RW rfl rfl | exact adQ rfl rfl rfl (by decide) | exact adR rfl rfl rfl (by decide) | exact ads rfl bb.out rfl rfl | exact adJ rfl bb.out rfl rfl | exact adr rfl bb.out rfl | exact RV rfl bb.out rfl | exact adN rfl rfl rfl | exact adM rfl rfl rfl | exact adL rfl rfl | exact Cj rfl (Gs _ _) rfl rfl | exact Ck rfl (Gs _ _) rfl rfl | exact Cj rfl (Gt _ _) rfl rfl | exact Ck rfl (Gt _ _) rfl rfl | exact Cj rfl (Jw _ _) rfl rfl | exact Ck rfl (Jw _ _) rfl rfl):p:=h
theorem aFh{p:Prop}(h:p:=by first | exact mf rfl rfl | exact mf rfl (Eq.trans rfl (congrArg Value.pointer (by assumption)))):p:=h
theorem aFi{p:Prop}(h:p:=by first | exact w2 rfl rfl rfl | exact adv rfl rfl):p:=h
theorem aFj{p:Prop}(h:p:=by first | exact h1 rfl rfl (nj.it (by assumption)) rfl | exact iW rfl rfl (nj.it (by assumption)) rfl | exact adP rfl rfl rfl rfl | exact adO rfl rfl rfl rfl | exact mG rfl rfl rfl rfl | exact m6 rfl rfl rfl rfl):p:=h
theorem aFq{p:Prop}(h:p:=by first | exact jZ rfl bb.out rfl | exact adn rfl bb.out rfl | exact adF rfl bb.out rfl | exact Lc rfl rfl rfl | exact adI rfl rfl rfl):p:=h
theorem aFk{p:Prop}(h:p:=by first | exact RN rfl rfl | exact adh rfl | exact adj rfl rfl | exact RB rfl | exact acP rfl rfl | exact EI rfl | exact HP rfl | exact acX rfl | exact acZ rfl rfl | exact ac1 rfl rfl | exact RG rfl rfl | exact ac6 rfl rfl | exact ac7 rfl rfl | exact ac8 rfl | exact RK rfl rfl | exact yV rfl rfl | exact ac9 rfl | exact adb rfl | exact RJ rfl rfl rfl | exact RO rfl rfl rfl | exact adl rfl rfl rfl | exact adm rfl rfl rfl | exact acQ rfl rfl rfl | exact acS rfl rfl rfl | exact acT rfl rfl rfl | exact RF rfl rfl rfl | exact acV rfl rfl rfl | exact acW rfl rfl rfl | exact ac0 rfl rfl rfl | exact ac2 rfl rfl rfl | exact ac3 rfl rfl rfl | exact ac4 rfl rfl rfl | exact ac5 rfl rfl rfl | exact RH rfl rfl rfl | exact ada rfl rfl rfl | exact RM rfl rfl rfl rfl | exact ade rfl rfl rfl rfl | exact RC rfl rfl rfl rfl | exact acR rfl rfl rfl rfl | exact RD rfl rfl rfl rfl | exact RI rfl rfl rfl rfl | exact RL rfl rfl rfl rfl rfl | exact adf rfl rfl rfl rfl rfl | exact adg rfl rfl rfl rfl rfl | exact adi rfl rfl rfl rfl rfl | exact acU rfl rfl rfl rfl rfl | exact acY rfl rfl rfl rfl rfl | exact adk rfl rfl rfl rfl rfl rfl | exact RE rfl rfl rfl rfl rfl rfl rfl):p:=h
theorem aFm{p:Prop}(h:p:=by first | exact adz rfl bb.out rfl rfl bb.out rfl rfl rfl | exact adA rfl bb.out rfl rfl bb.out rfl rfl eH.out rfl):p:=h
theorem aFo{p:Prop}(h:p:=by first | exact RR rfl rfl):p:=h
theorem aFg{p:Prop}(h:p:=by first | exact c0 rfl rfl | exact Ci rfl rfl):p:=h
theorem aFl{p:Prop}(h:p:=by first | exact uk rfl bb.out bb.out rfl | exact q_cvtS rfl bb.out bb.out rfl):p:=h
theorem aFn{p:Prop}(h:p:=by first | exact RS rfl rfl rfl | exact yW rfl bb.out rfl rfl):p:=h
theorem aFp{p:Prop}(h:p:=by first | exact adw rfl YU rfl | exact RQ rfl OI rfl):p:=h
theorem Lh{p:Prop}(h:p:=by first | exact hp 9 (.refl 9) aFr | exact hp 1 (.refl 1) aFh | exact hp 10 (.refl 10) aFi | exact hp 11 (.refl 11) aFj | exact hp 7 (.refl 7) aFq | exact hp 12 (.refl 12) aFk | exact hp 15 (.refl 15) aFm | exact hp 2 (.refl 2) aFo | exact hp 0 (.refl 0) aFg | exact hp 14 (.refl 14) aFl | exact hp 19 (.refl 19) aFn | exact hp 5 (.refl 5) aFp):p:=h
theorem aFA{p:Prop}(h:p:=by first | exact RX rfl rfl rfl F | exact RY rfl rfl rfl F | exact Lf rfl rfl rfl F | exact R0 rfl rfl rfl F | exact ado rfl rfl rfl F | exact adx rfl rfl rfl rfl F):p:=h
theorem aFs{p:Prop}(h:p:=by first | exact mf rfl (Eq.trans rfl (congrArg Value.pointer F))):p:=h
theorem aFz{p:Prop}(h:p:=by first | exact adE rfl bb.out rfl F):p:=h
theorem aFu{p:Prop}(h:p:=by first | exact kv rfl bb.out b_.out rfl rfl F | exact adB rfl bb.out b_.out rfl rfl F | exact adC rfl bb.out rfl rfl F | exact adD rfl bb.out b_.out bb.out rfl (fun _=>rfl) rfl rfl F):p:=h
theorem aFy{p:Prop}(h:p:=by first | exact kb rfl b_.out rfl F):p:=h
theorem aFt{p:Prop}(h:p:=by first | exact RA rfl bb.out bb.out bb.out rfl F | exact adp rfl bb.out bb.out rfl F):p:=h
theorem aFv{p:Prop}(h:p:=by first | exact Lg rfl bb.out b_.out rfl rfl rfl F | exact adT rfl bb.out b_.out rfl rfl F | exact R1 rfl bb.out b_.out rfl rfl F | exact adS rfl bb.out b_.out rfl F | exact adU rfl bb.out b_.out rfl rfl rfl rfl F | exact R2 rfl bb.out b_.out rfl rfl rfl F | exact adX rfl bb.out rfl rfl rfl F | exact adW rfl bb.out rfl rfl F | exact adV rfl bb.out rfl rfl F):p:=h
theorem aFw{p:Prop}(h:p:=by first | exact adH rfl bb.out bb.out (by exact eH.out) rfl rfl F | exact adG rfl bb.out bb.out (by exact eH.out) rfl rfl F):p:=h
theorem aFx{p:Prop}(h:p:=by first | exact Rz rfl ⟨_,bb.out,by rfl⟩ eH.out rfl F | exact adq rfl rfl F):p:=h
theorem te{p:Prop}(h:p:=by first | exact hp 9 (.refl 9) aFA | exact hp 1 (.refl 1) aFs | exact hp 7 (.refl 7) aFz | exact hp 16 (.refl 16) aFu | exact hp 3 (.refl 3) aFy | exact hp 14 (.refl 14) aFt | exact hp 17 (.refl 17) aFv | exact hp 18 (.refl 18) aFw | exact hp 19 (.refl 19) aFx):p:=h
theorem a4{p:Prop}(h:p:=by first | exact (dg R :) | exact (dg (aj5 R) :) | exact rfl):p:=h
theorem aFd{p:Prop}(h:p:=by first | exact iL rfl a4 a4 | exact hg rfl a4 a4 | exact me rfl a4 a4 | exact rz rfl a4 | exact La rfl a4 a4 | exact vA rfl a4 a4 | exact HQ rfl a4 a4 | exact pg rfl a4 a4 | exact yX rfl a4 a4 | exact RT rfl a4 a4 | exact sh rfl bb.out a4 a4 | exact Ld rfl bb.out a4 a4 | exact adt rfl a4 a4 | exact adK rfl a4 a4 | exact RP rfl bb.out a4 a4 | exact RU rfl bb.out a4 a4 | exact ady rfl (by decide) a4 a4 | exact K_ rfl a4 a4 | exact Le rfl a4 a4 | exact R3 rfl a4 a4 | exact acO rfl a4 a4 | exact RW rfl a4 | exact adQ rfl a4 a4 (by decide) | exact adR rfl a4 a4 (by decide) | exact ads rfl bb.out a4 a4 | exact adJ rfl bb.out a4 a4 | exact adr rfl bb.out a4 | exact RV rfl bb.out a4 | exact adN rfl rfl a4 | exact adM rfl rfl a4 | exact adL rfl a4 | exact Cj rfl (Gs _ _) a4 a4 | exact Ck rfl (Gs _ _) a4 a4 | exact Cj rfl (Gt _ _) a4 a4 | exact Ck rfl (Gt _ _) a4 a4 | exact Cj rfl (Jw _ _) a4 a4 | exact Ck rfl (Jw _ _) a4 a4):p:=h
theorem aE3{p:Prop}(h:p:=by first | exact mf rfl a4):p:=h
theorem aE4{p:Prop}(h:p:=by first | exact w2 rfl a4 rfl | exact adv rfl a4):p:=h
theorem aE5{p:Prop}(h:p:=by first | exact aE1 R rfl rfl rfl rfl | exact HR R rfl rfl rfl rfl | exact h1 rfl a4 (nj.it (by assumption)) a4 | exact iW rfl a4 (nj.it (by assumption)) a4 | exact adP rfl a4 a4 a4 | exact adO rfl a4 a4 a4 | exact mG rfl a4 a4 a4 | exact m6 rfl a4 a4 a4):p:=h
theorem aFc{p:Prop}(h:p:=by first | exact jZ rfl bb.out a4 | exact adn rfl bb.out a4 | exact adF rfl bb.out a4 | exact Lc rfl a4 a4 | exact adI rfl a4 a4):p:=h
theorem aE6{p:Prop}(h:p:=by first | exact RN rfl a4 | exact adh rfl | exact adj rfl a4 | exact RB rfl | exact acP rfl a4 | exact EI rfl | exact HP rfl | exact acX rfl | exact acZ rfl a4 | exact ac1 rfl a4 | exact RG rfl a4 | exact ac6 rfl a4 | exact ac7 rfl a4 | exact ac8 rfl | exact RK rfl a4 | exact yV rfl a4 | exact ac9 rfl | exact adb rfl | exact RJ rfl a4 a4 | exact RO rfl a4 a4 | exact adl rfl a4 a4 | exact adm rfl a4 a4 | exact acQ rfl a4 a4 | exact acS rfl a4 a4 | exact acT rfl a4 a4 | exact RF rfl a4 a4 | exact acV rfl a4 a4 | exact acW rfl a4 a4 | exact ac0 rfl a4 a4 | exact ac2 rfl a4 a4 | exact ac3 rfl a4 a4 | exact ac4 rfl a4 a4 | exact ac5 rfl a4 a4 | exact RH rfl a4 a4 | exact ada rfl a4 a4 | exact RM rfl a4 a4 a4 | exact ade rfl a4 a4 a4 | exact RC rfl a4 a4 a4 | exact acR rfl a4 a4 a4 | exact RD rfl a4 a4 a4 | exact RI rfl a4 a4 a4 | exact RL rfl a4 a4 a4 a4 | exact adf rfl a4 a4 a4 a4 | exact adg rfl a4 a4 a4 a4 | exact adi rfl a4 a4 a4 a4 | exact acU rfl a4 a4 a4 a4 | exact acY rfl a4 a4 a4 a4 | exact adk rfl a4 a4 a4 a4 a4 | exact RE rfl a4 a4 a4 a4 a4 a4):p:=h
theorem aE8{p:Prop}(h:p:=by first | exact adz rfl bb.out rfl rfl bb.out rfl a4 rfl | exact adA rfl bb.out rfl rfl bb.out rfl a4 eH.out rfl):p:=h
theorem aFa{p:Prop}(h:p:=by first | exact RR rfl a4):p:=h
theorem aE2{p:Prop}(h:p:=by first | exact c0 rfl a4 | exact Ci rfl a4):p:=h
theorem aE7{p:Prop}(h:p:=by first | exact uk rfl bb.out bb.out a4 | exact q_cvtS rfl bb.out bb.out a4):p:=h
theorem aE9{p:Prop}(h:p:=by first | exact RS rfl rfl rfl | exact yW rfl bb.out rfl a4):p:=h
theorem aFb{p:Prop}(h:p:=by first | exact adw rfl YU a4 | exact RQ rfl OI a4):p:=h
theorem jt{p:Prop}(h:p:=by first | exact hp 9 (.refl 9) aFd | exact hp 1 (.refl 1) aE3 | exact hp 10 (.refl 10) aE4 | exact hp 11 (.refl 11) aE5 | exact hp 7 (.refl 7) aFc | exact hp 12 (.refl 12) aE6 | exact hp 15 (.refl 15) aE8 | exact hp 2 (.refl 2) aFa | exact hp 0 (.refl 0) aE2 | exact hp 14 (.refl 14) aE7 | exact hp 19 (.refl 19) aE9 | exact hp 5 (.refl 5) aFb):p:=h
theorem aFJ{p:Prop}(h:p:=by first | exact RX rfl a4 a4 F | exact RY rfl a4 a4 F | exact Lf rfl a4 a4 F | exact R0 rfl a4 a4 F | exact ado rfl a4 a4 F | exact adx rfl rfl a4 a4 F):p:=h
theorem aFB{p:Prop}(h:p:=by first | exact mf rfl (Eq.trans a4 (congrArg Value.pointer F))):p:=h
theorem aFI{p:Prop}(h:p:=by first | exact adE rfl bb.out a4 F):p:=h
theorem aFD{p:Prop}(h:p:=by first | exact kv rfl bb.out b_.out a4 a4 F | exact adB rfl bb.out b_.out a4 a4 F | exact adC rfl bb.out a4 a4 F | exact adD rfl bb.out b_.out bb.out rfl (fun _=>rfl) a4 a4 F):p:=h
theorem aFH{p:Prop}(h:p:=by first | exact kb rfl b_.out a4 F):p:=h
theorem aFC{p:Prop}(h:p:=by first | exact RA rfl bb.out bb.out bb.out a4 F | exact adp rfl bb.out bb.out a4 F):p:=h
theorem aFE{p:Prop}(h:p:=by first | exact Lg rfl bb.out b_.out a4 a4 a4 F | exact adT rfl bb.out b_.out a4 a4 F | exact R1 rfl bb.out b_.out a4 a4 F | exact adS rfl bb.out b_.out a4 F | exact adU rfl bb.out b_.out a4 a4 a4 a4 F | exact R2 rfl bb.out b_.out a4 a4 a4 F | exact adX rfl bb.out a4 a4 a4 F | exact adW rfl bb.out a4 a4 F | exact adV rfl bb.out a4 a4 F):p:=h
theorem aFF{p:Prop}(h:p:=by first | exact adH rfl bb.out bb.out (by exact eH.out) a4 a4 F | exact adG rfl bb.out bb.out (by exact eH.out) a4 a4 F):p:=h
theorem aFG{p:Prop}(h:p:=by first | exact Rz rfl ⟨_,bb.out,by rfl⟩ eH.out a4 F | exact adq rfl a4 F):p:=h
theorem kK{p:Prop}(h:p:=by first | exact hp 9 (.refl 9) aFJ | exact hp 1 (.refl 1) aFB | exact hp 7 (.refl 7) aFI | exact hp 16 (.refl 16) aFD | exact hp 3 (.refl 3) aFH | exact hp 14 (.refl 14) aFC | exact hp 17 (.refl 17) aFE | exact hp 18 (.refl 18) aFF | exact hp 19 (.refl 19) aFG):p:=h
theorem mJ{p:Prop}(h:p:=by repeat first | with_reducible exact rfl | refine aQ ?_ rfl):p:=h
theorem eL{p:Prop}(h:p:=by first | exact .free rfl | exact .az _ _ _ _ rfl rfl rfl (nj.it (by assumption))):p:=h
theorem br{p:Prop} (h:p:=by
 repeat' first
  |(refine aAA ?_; first
   |(refine Qj 0 (.refl 0) ?_; first
    |refine aHL rfl ?_
    |first
    |(refine pN 3 (.refl 3) ?_; refine anH rfl b_.out h rfl (fun x F h=>?_))
    |(refine pN 1 (.refl 1) ?_; refine anI rfl h rfl (fun x F h=>?_))
    |(refine pN 2 (.refl 2) ?_; refine aJn rfl rfl ?_)
    |(refine pN 5 (.refl 5) ?_; refine anG rfl IS.out h rfl (fun r w h=>?_))
    |(refine pN 4 (.refl 4) ?_; refine anJ rfl b_.out h rfl rfl (fun w h=>?_))
    |(refine pN 13 (.refl 13) ?_; refine anF rfl b_.out eH.out h (fun x w h=>?_))
    |refine aeU rfl rfl rfl Lh ?_
    |refine DJ h fun x F h=>aeU rfl rfl rfl te ?_
    |first
    |(refine pN 7 (.refl 7) ?_; first |refine ev rfl eL (Ip rfl rfl bb.out ⟨_,bb.out⟩ b_.out eH.out rfl rfl (Nat.lt_of_lt_of_le Nat.zero_lt_one (Nat.le_of_ble_eq_true rfl)) rfl rfl h (fun r w h=>?_)) |refine ev rfl eL (S7 rfl rfl bb.out bb.out b_.out eH.out rfl rfl h (fun r w h=>?_)) |refine ev rfl eL (S8 rfl rfl bb.out b_.out eH.out rfl h (fun w h=>?_)) |refine ev rfl eL (Tb rfl rfl bb.out rfl h (fun w h=>?_)) |refine ev rfl eL (Tc rfl rfl bb.out bb.out rfl rfl h (fun w h=>?_)) |refine ev rfl eL (Ta rfl rfl bb.out b_.out rfl rfl h (fun r w h=>?_)))
    |(refine pN 6 (.refl 6) ?_; first |refine ev rfl eL (S9 rfl rfl rfl rfl h (fun r w h=>?_)) |refine ev rfl eL (S_ rfl rfl rfl rfl h (fun r w h=>?_)))
    |(refine pN 14 (.refl 14) ?_; first |refine ev rfl eL (Th rfl rfl bb.out bb.out bb.out rfl h (fun r w h=>?_)) |refine ev rfl eL (Te rfl rfl bb.out bb.out rfl h (fun w h=>?_)))
    |(refine pN 20 (.refl 20) ?_; first |refine ev rfl eL (E1 rfl (.inl rfl) bb.out bb.out rfl rfl rfl h (fun w h=>?_)) |refine ev rfl eL (E1 rfl (.inr rfl) bb.out bb.out rfl rfl rfl h (fun w h=>?_)) |refine ev rfl eL (Td rfl rfl bb.out b_.out eH.out rfl rfl h (fun r w h=>?_)) |refine ev rfl eL (Tg rfl rfl bb.out rfl h (fun r w h=>?_)) |refine ev rfl eL (Tf rfl rfl rfl h (fun r w h=>?_)) |(obtain⟨a,w,Y,hw,h⟩:=Es h; refine vI rfl eL rfl (Al rfl bb.out b_.out eH.out rfl (by decide) (by decide) rfl Y hw) ?_) |(obtain⟨a,w,Y,hw,h⟩:=F8 h; refine vI rfl eL rfl (Al rfl bb.out b_.out eH.out rfl (by decide) (by decide) rfl Y hw) ?_) |(obtain⟨a,w,Y,hw,h⟩:=Es h; refine vI rfl eL rfl (RZ rfl bb.out b_.out eH.out Y hw) ?_) |(obtain⟨a,w,Y,hw,h⟩:=KR h; refine vI rfl eL rfl (Lb rfl Y hw) ?_) |(obtain⟨a,w,Y,hw,h⟩:=pU h; refine vI rfl eL rfl (uj rfl b_.out rfl Y hw) ?_)))
   |refine aHK rfl ?_
   |refine aHN rfl rfl rfl rfl (by assumption) ?_
   |refine aHM rfl rfl rfl rfl ?_
   |refine aeT rfl rfl rfl rfl (by assumption) rfl Lh ?_
   |refine DJ h fun x F h=>aeT rfl rfl rfl rfl (by assumption) rfl te ?_
   |(have _:=@o9; first |(refine o9 rfl ?_ (fun s g w h=>?_); refine pY h (fun Y h=>?_) (fun Y h=>?_)) |(refine Qy rfl ?_ (fun s g w h=>?_); refine pY h (fun Y h=>?_) (fun Y h=>?_)) |(refine aBi rfl ?_ (fun s g w h=>?_); refine pY h (fun Y h=>?_) (fun Y h=>?_)) |(refine aBj rfl ?_ (fun s g w h=>?_); refine pY h (fun Y h=>?_) (fun Y h=>?_)) |(refine aBk rfl ?_ (fun s g w h=>?_); refine pY h (fun Y h=>?_) (fun Y h=>?_)) |(refine aBl rfl ?_ (fun s g w h=>?_); refine pY h (fun Y h=>?_) (fun Y h=>?_)) |(refine aBm rfl ?_ (fun s g w h=>?_); refine pY h (fun Y h=>?_) (fun Y h=>?_)) |(refine aBn rfl ?_ (fun s g w h=>?_); refine pY h (fun Y h=>?_) (fun Y h=>?_)))
   |refine aFS rfl rfl rfl rfl h (fun Y h=>?_) (fun Y h=>?_)
   |(refine Qj 1 (.refl 1) ?_; first
    |refine Aw rfl (xV rfl rfl rfl) rfl (fun R=>jt) ?_
    |refine DJ h fun x F h=>Aw rfl (xV rfl rfl rfl) rfl (fun R=>have F:=F R; kK) ?_
    |refine Aw rfl (xW rfl rfl rfl) rfl (fun R=>jt) ?_
    |refine DJ h fun x F h=>Aw rfl (xW rfl rfl rfl) rfl (fun R=>have F:=F R; kK) ?_)
   |(refine Qj 2 (.refl 2) ?_; first
    |refine Aw rfl (xU rfl rfl rfl) rfl (fun R=>jt) ?_
    |refine DJ h fun x F h=>Aw rfl (xU rfl rfl rfl) rfl (fun R=>have F:=F R; kK) ?_
    |refine Aw rfl (xT rfl rfl rfl) rfl (fun R=>jt) ?_
    |refine DJ h fun x F h=>Aw rfl (xT rfl rfl rfl) rfl (fun R=>have F:=F R; kK) ?_)
   |first
    |(refine pN 5 (.refl 5) ?_; refine ev rfl eL (gU rfl (fT rfl IS.out rfl) h (fun r w h=>?_)))
    |(refine pN 4 (.refl 4) ?_; (obtain⟨w,hw,ab,h⟩:=sr h; refine aef (d:=none) rfl eL rfl (si rfl b_.out rfl rfl ab hw) ?_))
    |(refine pN 13 (.refl 13) ?_; (obtain⟨a,w,Y,hw,h⟩:=pU h; refine vI rfl eL rfl (HO rfl b_.out (by exact eH.out) Y hw) ?_))
    |(refine pN 7 (.refl 7) ?_; first |refine ev rfl eL (Ip rfl rfl bb.out ⟨_,bb.out⟩ b_.out eH.out rfl rfl (Nat.lt_of_lt_of_le Nat.zero_lt_one (Nat.le_of_ble_eq_true rfl)) rfl rfl h (fun r w h=>?_)) |refine ev rfl eL (S7 rfl rfl bb.out bb.out b_.out eH.out rfl rfl h (fun r w h=>?_)) |refine ev rfl eL (S8 rfl rfl bb.out b_.out eH.out rfl h (fun w h=>?_)) |refine ev rfl eL (Tb rfl rfl bb.out rfl h (fun w h=>?_)) |refine ev rfl eL (Tc rfl rfl bb.out bb.out rfl rfl h (fun w h=>?_)) |refine ev rfl eL (Ta rfl rfl bb.out b_.out rfl rfl h (fun r w h=>?_)))
    |(refine pN 6 (.refl 6) ?_; first |refine ev rfl eL (S9 rfl rfl rfl rfl h (fun r w h=>?_)) |refine ev rfl eL (S_ rfl rfl rfl rfl h (fun r w h=>?_)))
    |(refine pN 14 (.refl 14) ?_; first |refine ev rfl eL (Th rfl rfl bb.out bb.out bb.out rfl h (fun r w h=>?_)) |refine ev rfl eL (Te rfl rfl bb.out bb.out rfl h (fun w h=>?_)))
    |(refine pN 20 (.refl 20) ?_; first |refine ev rfl eL (E1 rfl (.inl rfl) bb.out bb.out rfl rfl rfl h (fun w h=>?_)) |refine ev rfl eL (E1 rfl (.inr rfl) bb.out bb.out rfl rfl rfl h (fun w h=>?_)) |refine ev rfl eL (Td rfl rfl bb.out b_.out eH.out rfl rfl h (fun r w h=>?_)) |refine ev rfl eL (Tg rfl rfl bb.out rfl h (fun r w h=>?_)) |refine ev rfl eL (Tf rfl rfl rfl h (fun r w h=>?_)) |(obtain⟨a,w,Y,hw,h⟩:=Es h; refine vI rfl eL rfl (Al rfl bb.out b_.out eH.out rfl (by decide) (by decide) rfl Y hw) ?_) |(obtain⟨a,w,Y,hw,h⟩:=F8 h; refine vI rfl eL rfl (Al rfl bb.out b_.out eH.out rfl (by decide) (by decide) rfl Y hw) ?_) |(obtain⟨a,w,Y,hw,h⟩:=Es h; refine vI rfl eL rfl (RZ rfl bb.out b_.out eH.out Y hw) ?_) |(obtain⟨a,w,Y,hw,h⟩:=KR h; refine vI rfl eL rfl (Lb rfl Y hw) ?_) |(obtain⟨a,w,Y,hw,h⟩:=pU h; refine vI rfl eL rfl (uj rfl b_.out rfl Y hw) ?_))
   |(have _:=@o9; first |(refine o9 rfl ?_ (fun s g w h=>?_); refine pY h (fun Y h=>?_) (fun Y h=>?_)) |(refine Qy rfl ?_ (fun s g w h=>?_); refine pY h (fun Y h=>?_) (fun Y h=>?_)) |(refine aBi rfl ?_ (fun s g w h=>?_); refine pY h (fun Y h=>?_) (fun Y h=>?_)) |(refine aBj rfl ?_ (fun s g w h=>?_); refine pY h (fun Y h=>?_) (fun Y h=>?_)) |(refine aBk rfl ?_ (fun s g w h=>?_); refine pY h (fun Y h=>?_) (fun Y h=>?_)) |(refine aBl rfl ?_ (fun s g w h=>?_); refine pY h (fun Y h=>?_) (fun Y h=>?_)) |(refine aBm rfl ?_ (fun s g w h=>?_); refine pY h (fun Y h=>?_) (fun Y h=>?_)) |(refine aBn rfl ?_ (fun s g w h=>?_); refine pY h (fun Y h=>?_) (fun Y h=>?_)))
   |refine pY h (fun Y h=>?_) (fun Y h=>?_)
   |exact aCB (by assumption) |exact aCC (by assumption))
  |(refine ar3 ?_; first
   |refine akP rfl rfl ?_
   |(have _:=@ga; first |refine ga rfl rfl h mixed rfl (by kernel_rfl) (by intro c a d v w h; cases d<;>exact h) (fun w h ak=>?_) |refine rT rfl rfl h mixed rfl (by kernel_rfl) (by intro c a d v w h; cases d<;>exact h) (fun w h ak=>?_) |refine Dz rfl rfl h mixed rfl (by kernel_rfl) (by intro c a d v w h; cases d<;>exact h) (fun w h ak=>?_) |refine al9 rfl rfl h mixed rfl (by kernel_rfl) (by intro c a d v w h; cases d<;>exact h) (fun w h ak=>?_) |refine aJO rfl rfl h mixed rfl (by kernel_rfl) (by intro c a d v w h; cases d<;>exact h) (fun w h ak=>?_) |refine aJP rfl rfl h mixed rfl (by kernel_rfl) (by intro c a d v w h; cases d<;>exact h) (fun w h ak=>?_) |refine aJQ rfl rfl h mixed rfl (by kernel_rfl) (by intro c a d v w h; cases d<;>exact h) (fun w h ak=>?_) |refine aJR rfl rfl h mixed rfl (by kernel_rfl) (by intro c a d v w h; cases d<;>exact h) (fun w h ak=>?_) |refine aJS rfl rfl h mixed rfl (by kernel_rfl) (by intro c a d v w h; cases d<;>exact h) (fun w h ak=>?_) |refine aJD rfl rfl h mixed rfl (by kernel_rfl) (by intro c a d v w h; cases d<;>exact h) (fun w h ak=>?_) |refine aJE rfl rfl h mixed rfl (by kernel_rfl) (by intro c a d v w h; cases d<;>exact h) (fun w h ak=>?_) |refine aJF rfl rfl h mixed rfl (by kernel_rfl) (by intro c a d v w h; cases d<;>exact h) (fun w h ak=>?_) |refine aJG rfl rfl h mixed rfl (by kernel_rfl) (by intro c a d v w h; cases d<;>exact h) (fun w h ak=>?_) |refine aJH rfl rfl h mixed rfl (by kernel_rfl) (by intro c a d v w h; cases d<;>exact h) (fun w h ak=>?_) |refine aJI rfl rfl h mixed rfl (by kernel_rfl) (by intro c a d v w h; cases d<;>exact h) (fun w h ak=>?_) |refine aJJ rfl rfl h mixed rfl (by kernel_rfl) (by intro c a d v w h; cases d<;>exact h) (fun w h ak=>?_) |refine aJK rfl rfl h mixed rfl (by kernel_rfl) (by intro c a d v w h; cases d<;>exact h) (fun w h ak=>?_) |refine aJL rfl rfl h mixed rfl (by kernel_rfl) (by intro c a d v w h; cases d<;>exact h) (fun w h ak=>?_) |refine aJM rfl rfl h mixed rfl (by kernel_rfl) (by intro c a d v w h; cases d<;>exact h) (fun w h ak=>?_) |refine aJN rfl rfl h mixed rfl (by kernel_rfl) (by intro c a d v w h; cases d<;>exact h) (fun w h ak=>?_))
   |refine akK rfl h rfl (fun ao h=>?_) (fun ao h=>?_)
   |(have _:=@iI; first |refine iI rfl rfl ?_ (fun s g w h=>?_) |refine Hk rfl rfl ?_ (fun s g w h=>?_) |refine aBh rfl rfl ?_ (fun s g w h=>?_) |refine aKt rfl rfl ?_ (fun s g w h=>?_) |refine aKu rfl rfl ?_ (fun s g w h=>?_) |refine aKv rfl rfl ?_ (fun s g w h=>?_) |refine aKw rfl rfl ?_ (fun s g w h=>?_) |refine aKx rfl rfl ?_ (fun s g w h=>?_) |refine aKy rfl rfl ?_ (fun s g w h=>?_) |refine aKe rfl rfl ?_ (fun s g w h=>?_) |refine aKf rfl rfl ?_ (fun s g w h=>?_) |refine aKg rfl rfl ?_ (fun s g w h=>?_) |refine aKh rfl rfl ?_ (fun s g w h=>?_) |refine aKi rfl rfl ?_ (fun s g w h=>?_) |refine aKj rfl rfl ?_ (fun s g w h=>?_) |refine aKk rfl rfl ?_ (fun s g w h=>?_) |refine aKl rfl rfl ?_ (fun s g w h=>?_) |refine aKm rfl rfl ?_ (fun s g w h=>?_) |refine aKn rfl rfl ?_ (fun s g w h=>?_) |refine aKo rfl rfl ?_ (fun s g w h=>?_) |refine aKp rfl rfl ?_ (fun s g w h=>?_) |refine aKq rfl rfl ?_ (fun s g w h=>?_) |refine aKr rfl rfl ?_ (fun s g w h=>?_) |refine aKs rfl rfl ?_ (fun s g w h=>?_))
   |refine wk rfl ?_
   |(refine Gf rfl ?_; first |exact l2 h rfl rfl |exact Tq h rfl rfl |exact Iw h rfl rfl |exact aGr h rfl rfl |exact aGq h rfl)
   |refine akI rfl ?_
   |refine akJ rfl ?_
   |refine akN rfl rfl ?_
   |refine akQ rfl rfl ?_
   |refine akL rfl ?_
   |refine akM rfl ?_
   |refine akO rfl ?_
   |(have _:=@iU; first |refine iU rfl rfl h mJ (fun s g w aa h=>?_) |refine Eg rfl rfl h mJ (fun s g w aa h=>?_) |refine abw rfl rfl h mJ (fun s g w aa h=>?_) |refine aCb rfl rfl h mJ (fun s g w aa h=>?_) |refine aKH rfl rfl h mJ (fun s g w aa h=>?_) |refine aKI rfl rfl h mJ (fun s g w aa h=>?_) |refine aKJ rfl rfl h mJ (fun s g w aa h=>?_) |refine aKK rfl rfl h mJ (fun s g w aa h=>?_) |refine aKL rfl rfl h mJ (fun s g w aa h=>?_) |refine aKA rfl rfl h mJ (fun s g w aa h=>?_) |refine aKB rfl rfl h mJ (fun s g w aa h=>?_) |refine aKC rfl rfl h mJ (fun s g w aa h=>?_) |refine aKD rfl rfl h mJ (fun s g w aa h=>?_) |refine aKE rfl rfl h mJ (fun s g w aa h=>?_) |refine aKF rfl rfl h mJ (fun s g w aa h=>?_) |refine aKG rfl rfl h mJ (fun s g w aa h=>?_))
   |(refine Gf rfl ?_; refine DI h fun x F h=>?_; exact n8 rfl (.cons (.cell b_.out rfl F) .nil) ⟨_,rfl,h⟩)
   |(refine Gf rfl ?_; refine DI h fun x F h=>DI h fun S aB h=>?_; exact n8 rfl (.cons (.cell b_.out rfl F) (.cons (.cell b_.out rfl aB) .nil)) ⟨(_,_),rfl,h⟩)
   |(refine Gf rfl ?_; refine DI h fun x F h=>?_; exact n8 rfl (.cons (.cell b_.out rfl F) (.cons (.tmp rfl) .nil)) ⟨(_,_),rfl,h⟩)
   |(refine Gf rfl ?_; refine DI h fun x F h=>?_; exact n8 rfl (.cons (.tmp rfl) (.cons (.cell b_.out rfl F) .nil)) ⟨(_,_),rfl,h⟩))
  |(refine ar4 ?_; first
   |(refine Qw 0 rfl (.refl 0) ?_; first
    |(refine aBe 3 (.refl 3) ?_; refine aJb rfl rfl h ak rfl (by kernel_rfl) (by kernel_rfl) (fun x F h=>?_))
    |refine iT h fun x F h=>afO rfl rfl rfl rfl ak (fun _=>te) ?_ (by kernel_rfl) (by kernel_rfl)
    |refine afO rfl rfl rfl rfl ak (fun _=>Lh) ?_ (by kernel_rfl) (by kernel_rfl)
    |refine iT h fun x F h=>L9 (W:=fun w=>iq _ _ _ _ w _) F rfl rfl rfl rfl ak (fun _ F=>te) ?_ (by kernel_rfl) (by kernel_rfl)
    |refine iT h fun x F h=>L9 (W:=fun w=>rK _ w _) F rfl rfl rfl rfl ak (fun _ F=>te) ?_ (by kernel_rfl) (by kernel_rfl)
    |refine iT h fun x F h=>L9 (W:=fun w=>kk _ _ _ w _) F rfl rfl rfl rfl ak (fun _ F=>te) ?_ (by kernel_rfl) (by kernel_rfl)
    |refine iT h fun x F h=>L9 (W:=fun w=>tq _ w _) F rfl rfl rfl rfl ak (fun _ F=>te) ?_ (by kernel_rfl) (by kernel_rfl))
   |refine aI8 rfl ?_ (by kernel_rfl)
   |refine aJe rfl rfl rfl rfl rfl (by assumption) ak ?_ (by kernel_rfl) (by kernel_rfl)
   |refine aJd rfl rfl rfl rfl rfl ak ?_ (by kernel_rfl) (by kernel_rfl)
   |refine afP rfl rfl rfl rfl rfl (by assumption) rfl ak (fun _=>Lh) ?_ (by kernel_rfl) (by kernel_rfl)
   |refine iT h fun x F h=>afP rfl rfl rfl rfl rfl (by assumption) rfl ak (fun _=>te) ?_ (by kernel_rfl) (by kernel_rfl)
    |refine iT h fun x F h=>Is (W:=fun w=>L _ _ w _) F rfl rfl rfl rfl rfl (by assumption) rfl ak (fun _ F=>te) ?_ (by kernel_rfl) (by kernel_rfl)
    |refine iT h fun x F h=>Is (W:=fun w=>iq _ _ _ _ w _) F rfl rfl rfl rfl rfl (by assumption) rfl ak (fun _ F=>te) ?_ (by kernel_rfl) (by kernel_rfl)
    |refine iT h fun x F h=>Is (W:=fun w=>rK _ w _) F rfl rfl rfl rfl rfl (by assumption) rfl ak (fun _ F=>te) ?_ (by kernel_rfl) (by kernel_rfl)
    |refine iT h fun x F h=>Is (W:=fun w=>kk _ _ _ w _) F rfl rfl rfl rfl rfl (by assumption) rfl ak (fun _ F=>te) ?_ (by kernel_rfl) (by kernel_rfl)
    |refine iT h fun x F h=>Is (W:=fun w=>tq _ w _) F rfl rfl rfl rfl rfl (by assumption) rfl ak (fun _ F=>te) ?_ (by kernel_rfl) (by kernel_rfl)
   |refine aJa rfl rfl rfl rfl rfl h (fun Y h=>?_) (fun Y h=>?_)
   |(refine Qw 1 rfl (.refl 1) ?_; first
    |refine AL rfl rfl (xV rfl rfl rfl) rfl ak (fun R _=>jt) ?_ (by kernel_rfl) (by kernel_rfl)
    |refine iT h fun x F h=>AL rfl rfl (xV rfl rfl rfl) rfl ak (fun R _=>have F:=F R; kK) ?_ (by kernel_rfl) (by kernel_rfl)
    |refine iT h fun x F h=>od (W:=fun w=>L _ _ w _) F rfl rfl (xV rfl rfl rfl) rfl ak (fun R _ F=>kK) ?_ (by kernel_rfl) (by kernel_rfl)
    |refine iT h fun x F h=>od (W:=fun w=>iq _ _ _ _ w _) F rfl rfl (xV rfl rfl rfl) rfl ak (fun R _ F=>kK) ?_ (by kernel_rfl) (by kernel_rfl)
    |refine iT h fun x F h=>od (W:=fun w=>rK _ w _) F rfl rfl (xV rfl rfl rfl) rfl ak (fun R _ F=>kK) ?_ (by kernel_rfl) (by kernel_rfl)
    |refine iT h fun x F h=>od (W:=fun w=>kk _ _ _ w _) F rfl rfl (xV rfl rfl rfl) rfl ak (fun R _ F=>kK) ?_ (by kernel_rfl) (by kernel_rfl)
    |refine iT h fun x F h=>od (W:=fun w=>tq _ w _) F rfl rfl (xV rfl rfl rfl) rfl ak (fun R _ F=>kK) ?_ (by kernel_rfl) (by kernel_rfl)
    |refine AL rfl rfl (xW rfl rfl rfl) rfl ak (fun R _=>jt) ?_ (by kernel_rfl) (by kernel_rfl)
    |refine iT h fun x F h=>AL rfl rfl (xW rfl rfl rfl) rfl ak (fun R _=>have F:=F R; kK) ?_ (by kernel_rfl) (by kernel_rfl)
    |refine iT h fun x F h=>od (W:=fun w=>L _ _ w _) F rfl rfl (xW rfl rfl rfl) rfl ak (fun R _ F=>kK) ?_ (by kernel_rfl) (by kernel_rfl)
    |refine iT h fun x F h=>od (W:=fun w=>iq _ _ _ _ w _) F rfl rfl (xW rfl rfl rfl) rfl ak (fun R _ F=>kK) ?_ (by kernel_rfl) (by kernel_rfl)
    |refine iT h fun x F h=>od (W:=fun w=>rK _ w _) F rfl rfl (xW rfl rfl rfl) rfl ak (fun R _ F=>kK) ?_ (by kernel_rfl) (by kernel_rfl)
    |refine iT h fun x F h=>od (W:=fun w=>kk _ _ _ w _) F rfl rfl (xW rfl rfl rfl) rfl ak (fun R _ F=>kK) ?_ (by kernel_rfl) (by kernel_rfl)
    |refine iT h fun x F h=>od (W:=fun w=>tq _ w _) F rfl rfl (xW rfl rfl rfl) rfl ak (fun R _ F=>kK) ?_ (by kernel_rfl) (by kernel_rfl))
   |(refine Qw 2 rfl (.refl 2) ?_; first
    |refine AL rfl rfl (xU rfl rfl rfl) rfl ak (fun R _=>jt) ?_ (by kernel_rfl) (by kernel_rfl)
    |refine iT h fun x F h=>AL rfl rfl (xU rfl rfl rfl) rfl ak (fun R _=>have F:=F R; kK) ?_ (by kernel_rfl) (by kernel_rfl)
    |refine iT h fun x F h=>od (W:=fun w=>L _ _ w _) F rfl rfl (xU rfl rfl rfl) rfl ak (fun R _ F=>kK) ?_ (by kernel_rfl) (by kernel_rfl)
    |refine iT h fun x F h=>od (W:=fun w=>iq _ _ _ _ w _) F rfl rfl (xU rfl rfl rfl) rfl ak (fun R _ F=>kK) ?_ (by kernel_rfl) (by kernel_rfl)
    |refine iT h fun x F h=>od (W:=fun w=>rK _ w _) F rfl rfl (xU rfl rfl rfl) rfl ak (fun R _ F=>kK) ?_ (by kernel_rfl) (by kernel_rfl)
    |refine iT h fun x F h=>od (W:=fun w=>kk _ _ _ w _) F rfl rfl (xU rfl rfl rfl) rfl ak (fun R _ F=>kK) ?_ (by kernel_rfl) (by kernel_rfl)
    |refine iT h fun x F h=>od (W:=fun w=>tq _ w _) F rfl rfl (xU rfl rfl rfl) rfl ak (fun R _ F=>kK) ?_ (by kernel_rfl) (by kernel_rfl)
    |refine AL rfl rfl (xT rfl rfl rfl) rfl ak (fun R _=>jt) ?_ (by kernel_rfl) (by kernel_rfl)
    |refine iT h fun x F h=>AL rfl rfl (xT rfl rfl rfl) rfl ak (fun R _=>have F:=F R; kK) ?_ (by kernel_rfl) (by kernel_rfl)
    |refine iT h fun x F h=>od (W:=fun w=>L _ _ w _) F rfl rfl (xT rfl rfl rfl) rfl ak (fun R _ F=>kK) ?_ (by kernel_rfl) (by kernel_rfl)
    |refine iT h fun x F h=>od (W:=fun w=>iq _ _ _ _ w _) F rfl rfl (xT rfl rfl rfl) rfl ak (fun R _ F=>kK) ?_ (by kernel_rfl) (by kernel_rfl)
    |refine iT h fun x F h=>od (W:=fun w=>rK _ w _) F rfl rfl (xT rfl rfl rfl) rfl ak (fun R _ F=>kK) ?_ (by kernel_rfl) (by kernel_rfl)
    |refine iT h fun x F h=>od (W:=fun w=>kk _ _ _ w _) F rfl rfl (xT rfl rfl rfl) rfl ak (fun R _ F=>kK) ?_ (by kernel_rfl) (by kernel_rfl)
    |refine iT h fun x F h=>od (W:=fun w=>tq _ w _) F rfl rfl (xT rfl rfl rfl) rfl ak (fun R _ F=>kK) ?_ (by kernel_rfl) (by kernel_rfl))
   |refine aJc rfl ?_ (by kernel_rfl)
   |refine aI6 rfl h (fun h=>?_) (fun h=>?_) (by kernel_rfl)
   |refine aI7 rfl h (fun h=>?_) (fun h=>?_) (fun h=>?_) (by kernel_rfl)
   |refine aI9 h (fun Y h=>?_) (fun Y h=>?_))
  |(refine ar5 ?_; first
   |with_reducible refine aBo h (fun aq h=>?_)
   |refine aBp ?_
   |refine BV (fun h=>yx (by assumption) h) ?_
   |refine BV (fun h R=>yx (by assumption) (h R)) ?_
   |refine BV (fun h=>aBt (by assumption) h) ?_
   |refine BV (fun h=>aBu (by assumption) h) ?_
   |refine BV (fun h=>aBs (by assumption) h) ?_
   |refine BV (fun h=>aBr (by assumption) h) ?_
   |refine BV (fun _=>by assumption) ?_
   |refine aBq ?_ (by kernel_rfl))
  |(refine aAz ?_; first
   |refine lW rfl (.az _ _ _ _ rfl rfl rfl (nj.it (by assumption))) rfl ?_
   |refine lW rfl (.undef _ _ _ rfl rfl rfl) rfl ?_
   |first
    |(refine Cd 5 (.refl 5) ?_; refine hK rfl eL (gU rfl (fT rfl IS.out rfl) h (fun r w h=>?_)))
    |(refine Cd 4 (.refl 4) ?_; (obtain⟨w,hw,ab,h⟩:=sr h; refine ui (d:=none) rfl eL rfl (si rfl b_.out rfl rfl ab hw) ?_))
    |(refine Cd 13 (.refl 13) ?_; (obtain⟨a,w,Y,hw,h⟩:=pU h; refine yU (d:=some _) rfl eL rfl (HO rfl b_.out (by exact eH.out) Y hw) ?_))
    |(refine Cd 7 (.refl 7) ?_; first |refine hK rfl eL (Ip rfl rfl bb.out ⟨_,bb.out⟩ b_.out eH.out rfl rfl (Nat.lt_of_lt_of_le Nat.zero_lt_one (Nat.le_of_ble_eq_true rfl)) rfl rfl h (fun r w h=>?_)) |refine hK rfl eL (S7 rfl rfl bb.out bb.out b_.out eH.out rfl rfl h (fun r w h=>?_)) |refine hK rfl eL (S8 rfl rfl bb.out b_.out eH.out rfl h (fun w h=>?_)) |refine hK rfl eL (Tb rfl rfl bb.out rfl h (fun w h=>?_)) |refine hK rfl eL (Tc rfl rfl bb.out bb.out rfl rfl h (fun w h=>?_)) |refine hK rfl eL (Ta rfl rfl bb.out b_.out rfl rfl h (fun r w h=>?_)))
    |(refine Cd 6 (.refl 6) ?_; first |refine hK rfl eL (S9 rfl rfl rfl rfl h (fun r w h=>?_)) |refine hK rfl eL (S_ rfl rfl rfl rfl h (fun r w h=>?_)))
    |(refine Cd 14 (.refl 14) ?_; first |refine hK rfl eL (Th rfl rfl bb.out bb.out bb.out rfl h (fun r w h=>?_)) |refine hK rfl eL (Te rfl rfl bb.out bb.out rfl h (fun w h=>?_)))
    |(refine Cd 20 (.refl 20) ?_; first |refine hK rfl eL (E1 rfl (.inl rfl) bb.out bb.out rfl rfl rfl h (fun w h=>?_)) |refine hK rfl eL (E1 rfl (.inr rfl) bb.out bb.out rfl rfl rfl h (fun w h=>?_)) |refine hK rfl eL (Td rfl rfl bb.out b_.out eH.out rfl rfl h (fun r w h=>?_)) |refine hK rfl eL (Tg rfl rfl bb.out rfl h (fun r w h=>?_)) |refine hK rfl eL (Tf rfl rfl rfl h (fun r w h=>?_)) |(obtain⟨a,w,Y,hw,h⟩:=Es h; refine yU (d:=some _) rfl eL rfl (Al rfl bb.out b_.out eH.out rfl (by decide) (by decide) rfl Y hw) ?_) |(obtain⟨a,w,Y,hw,h⟩:=F8 h; refine yU (d:=some _) rfl eL rfl (Al rfl bb.out b_.out eH.out rfl (by decide) (by decide) rfl Y hw) ?_) |(obtain⟨a,w,Y,hw,h⟩:=Es h; refine yU (d:=some _) rfl eL rfl (RZ rfl bb.out b_.out eH.out Y hw) ?_) |(obtain⟨a,w,Y,hw,h⟩:=KR h; refine yU (d:=some _) rfl eL rfl (Lb rfl Y hw) ?_) |(obtain⟨a,w,Y,hw,h⟩:=pU h; refine yU (d:=some _) rfl eL rfl (uj rfl b_.out rfl Y hw) ?_)))
  |exact akh h mJ
  |exact aki h mJ
  |exact akj h mJ
  |exact akk h mJ
  |exact akl h mJ
  |exact akm h mJ
  |exact akg h mJ
  |exact amw h rfl):p:=h
abbrev cv:=Nat→Option Obj
def cv.le(a l:cv):Prop:=∀ k G,a k=some G→l k=some G
def cv.off(a l:cv):Prop:=∀ k,a k=none∨l k=none
structure bC where
 p:cv→cv→Prop
 mono:∀ {aW g8 h fr:cv},cv.le aW g8→cv.le h fr→p aW h→p g8 fr
theorem cv.le_refl(a:cv):cv.le a a:=fun _ _ h=>h
theorem cv.le_trans{a l c:cv}(h:cv.le a l)(k:cv.le l c):cv.le a c:=fun x G F=>k x G (h x G F)
theorem cv.Ad{a l c:cv}(h:cv.off a l)(k:cv.le c l):cv.off a c:=fun x=>by
 cases U:c x with
 |none=>exact .inr rfl
 |some G=>exact .inl ((h x).resolve_right (by rw[k x G U]; simp))
theorem cv.abP{a l:cv}(h:cv.off a l):cv.off l a:=fun x=>(h x).symm
def iA:List bC→cv→cv→Prop
 |[],_,_=>True
 |aO::m,aW,h=>∃ I O,cv.off I O∧cv.le I h∧cv.le O h∧aO.p aW I∧iA m aW O
theorem iA.mono:∀ {m:List bC} {aW g8 h fr:cv},cv.le aW g8→cv.le h fr→iA m aW h→iA m g8 fr
 |[],_,_,_,_,_,_,_=>trivial
 |_::_,_,_,_,_,a7,cD,⟨I,O,ai,cQ,cU,Y,al⟩=>⟨I,O,ai,(cv.le_trans cQ cD),(cv.le_trans cU cD),bC.mono _ a7 (cv.le_refl _) Y,iA.mono a7 (cv.le_refl _) al⟩
def dA(m:List bC):bC:=⟨iA m,iA.mono⟩
def hX{Z:Type}(f:Z→bC):bC:=⟨fun aW h=>∃ x,(f x).p aW h,fun a7 cD ⟨x,F⟩=>⟨x,(f x).mono a7 cD F⟩⟩
def lo(fa:Prop):bC:=⟨fun _ _=>fa,fun _ _ h=>h⟩
def ko(l:Nat)(G:Obj):bC:=⟨fun _ h=>h l=some G,fun _ cD h=>cD l G h⟩
def aH(l:Nat)(ba:List Value)(t:TypeId):bC:=ko l (.cells ba.toArray t)
def rU(fa:cv→Prop)(y:∀ {aW g8:cv},cv.le aW g8→fa aW→fa g8):bC:=⟨fun aW _=>fa aW,fun a7 _ h=>y a7 h⟩
structure E(A:World)(m:List bC)(w:World):Prop where
 os:w.os=A.os
 tape:w.tape=A.tape
 output:w.output=A.output
 size:A.heap.size≤w.heap.size
 mem:∃ aW h:cv,cv.off aW h∧(∀ l G,aW l=some G→w.heap[l]?=some G)∧(∀ l G,h l=some G→w.heap[l]?=some G)∧iA m aW h
section
variable {A w J:World} {m bT:List bC} {aO aT:bC}
theorem E.same(H:E A m w)(ai:J.os=w.os)(aS:J.tape=w.tape)(hu:J.output=w.output)(cD:J.heap=w.heap):E A m J:=
 ⟨ai.trans H.os,aS.trans H.tape,hu.trans H.output,cD▸H.size,by rw[cD]; exact H.mem⟩
theorem E.drew(H:E A m w):E A m w.drew:=H.same rfl rfl rfl rfl
theorem E.imp(H:E A m w)(h:∀ aW h,iA m aW h→iA bT aW h):E A bT w:=
 ⟨H.os,H.tape,H.output,H.size,let ⟨aW,k,a,l,c,d⟩:=H.mem; ⟨aW,k,a,l,c,h aW k d⟩⟩
theorem iA.swap{aW h:cv}(H:iA (aO::aT::m) aW h):iA (aT::aO::m) aW h:=by
 obtain⟨I,O,ai,cQ,cU,Y,aJ,bl,GZ,yz,yA,ao,al⟩:=H;refine⟨aJ,fun x=>if (aJ x).isSome then none else h x,?_,(cv.le_trans yz cU),?_,ao,I,bl,?_,?_,?_,Y,al⟩
 ·intro x;cases h:aJ x<;>simp[h]
 ·intro x G F;by_cases j:(aJ x).isSome<;>simp[j] at F; exact F
 ·exact cv.Ad ai yA
 ·intro x G F;have:aJ x=none:=by
   rcases ai x with h | h
   ·rw[h] at F; cases F
   ·cases aoe:aJ x with
    |none=>rfl
    |some u=>rw[yz x u aoe] at h; cases h
  simp[this,cQ x G F]
 ·intro x G F;have:aJ x=none:=(GZ x).resolve_right (by rw[F]; simp);simp[this,cU x G (yA x G F)]
theorem iA.tail{aW h:cv}(g:∀ aW h,iA m aW h→iA bT aW h)(H:iA (aO::m) aW h):iA (aO::bT) aW h:=by
 obtain⟨I,O,ai,cQ,cU,Y,al⟩:=H;exact⟨I,O,ai,cQ,cU,Y,g _ _ al⟩
theorem iA.perm(aE:m.Perm bT):∀ {aW h:cv},iA m aW h→iA bT aW h:=by
 induction aE with
 |nil=>exact fun h=>h
 |cons x _ ck=>exact fun h=>iA.tail (fun _ _ h=>ck h) h
 |swap x S _=>exact fun h=>iA.swap h
 |trans _ _ i1 i2=>exact fun h=>i2 (i1 h)
theorem E.perm(H:E A m w)(aE:m.Perm bT):E A bT w:=H.imp fun _ _ h=>h.perm aE
def front(i:Nat)(m:List bC):List bC:=match m,i with
 |[],_=>[]
 |aO::m,0=>aO::m
 |aO::m,i+1=>match front i m with
  |[]=>[aO]
  |aT::r=>aT::aO::r
theorem OR:∀ (i:Nat) (m:List bC),m.Perm (front i m)
 |_,[]=>by simp[front]
 |0,_::_=>.refl _
 |i+1,aO::m=>by
  have ck:=OR i m;simp only[front];cases am:front i m with
  |nil=>rw[am] at ck; rw[List.Perm.eq_nil ck]
  |cons aT r=>rw[am] at ck; exact (ck.cons aO).trans (.swap aT aO r)
theorem E.front(i:Nat)(H:E A m w):E A (front i m) w:=H.perm (OR i m)
def ord:List Nat→List bC→List bC
 |[],m=>m
 |i::Eb,m=>_root_.Go.Proofs.YthaobmpdjcoheaaGreat.bf.front (i+(Eb.filter fun D=>Nat.blt i D).length) (ord Eb m)
theorem E.ord:∀ (Eb:List Nat),E A m w→E A (bf.ord Eb m) w
 |[],H=>H
 |i::Eb,H=>(E.ord Eb H).front _
theorem E.drop(H:E A (aO::m) w):E A m w:=H.imp fun _ _ ⟨_,_,_,_,cU,_,al⟩=>iA.mono (cv.le_refl _) cU al
theorem E.ex{Z:Type}{f:Z→bC}(H:E A (hX f::m) w):∃ x,E A (f x::m) w:=by
 obtain⟨aW,h,a,l,c,I,O,ai,cQ,cU,⟨x,F⟩,al⟩:=H.mem;exact⟨x,H.os,H.tape,H.output,H.size,aW,h,a,l,c,I,O,ai,cQ,cU,F,al⟩
theorem E.mI{Z:Type}{f:Z→bC}(x:Z)(H:E A (f x::m) w):E A (hX f::m) w:=
 H.imp fun _ _ ⟨I,O,ai,cQ,cU,Y,al⟩=>⟨I,O,ai,cQ,cU,⟨x,Y⟩,al⟩
theorem E.vy{fa:Prop}(H:E A (lo fa::m) w):fa∧E A m w:=by
 refine⟨?_,H.drop⟩;obtain⟨aW,h,a,l,c,I,O,ai,cQ,cU,F,al⟩:=H.mem;exact F
theorem E.vO{fa:Prop}(ar2:fa)(H:E A m w):E A (lo fa::m) w:=
 H.imp fun _ h al=>⟨fun _=>none,h,fun _=>.inl rfl,fun _ _ h=>(by cases h),cv.le_refl _,ar2,al⟩
theorem iA.append{bT:List bC}{aW h:cv}:∀ {m:List bC},iA (m++bT) aW h↔iA (dA m::bT) aW h
 |[]=>⟨fun H=>⟨fun _=>none,h,fun _=>.inl rfl,fun _ _ h=>(by cases h),cv.le_refl _,trivial,H⟩,fun ⟨_,_,_,_,cU,_,al⟩=>iA.mono (cv.le_refl _) cU al⟩
 |aO::m=>by
  constructor
  ·rintro⟨I,O,ai,cQ,cU,Y,al⟩;obtain⟨aJ,bl,GZ,yz,yA,aG,GR⟩:=iA.append.1 al;refine⟨fun x=>(I x).or (aJ x),bl,?_,?_,(cv.le_trans yA cU),⟨I,aJ,cv.Ad ai yz,?_,?_,Y,aG⟩,GR⟩
   ·intro x;rcases GZ x with h | h
    ·rcases cv.Ad ai yA x with k | k
     ·left; simp[h,k]
     ·exact .inr k
    ·exact .inr h
   ·intro x G F;cases j:I x with
    |some u=>simp[j] at F; subst F; exact cQ x u j
    |none=>simp[j] at F; exact cU x G (yz x G F)
   ·intro x G F; simp[F]
   ·intro x G F;have:I x=none:=(cv.Ad ai yz x).resolve_right (by rw[F]; simp);simp[this,F]
  ·rintro⟨Zm,bl,ai,Ko,yA,⟨I,aJ,GZ,cQ,yz,Y,aG⟩,GR⟩;refine⟨I,fun x=>if (I x).isSome then none else h x,?_,(cv.le_trans cQ Ko),?_,Y,?_⟩
   ·intro x; cases j:I x<;>simp[j]
   ·intro x G F;by_cases j:(I x).isSome<;>simp[j] at F; exact F
   ·refine iA.append.2 ⟨aJ,bl,cv.Ad (cv.abP (cv.Ad (cv.abP ai) yz)) (cv.le_refl _),?_,?_,aG,GR⟩
    ·intro x G F;have:I x=none:=(GZ x).resolve_right (by rw[F]; simp);simp[this,Ko x G (yz x G F)]
    ·intro x G F;have:I x=none:=by
      rcases ai x with k | k
      ·cases j:I x with
       |none=>rfl
       |some u=>rw[cQ x u j] at k; cases k
      ·rw[k] at F; cases F
     simp[this,yA x G F]
theorem E.open_{bT:List bC}(H:E A (dA bT::m) w):E A (bT++m) w:=H.imp fun _ _ h=>iA.append.2 h
theorem E.shut{bT:List bC}(H:E A (bT++m) w):E A (dA bT::m) w:=H.imp fun _ _ h=>iA.append.1 h
theorem E.dup{fa:cv→Prop}{y:∀ {aW g8:cv},cv.le aW g8→fa aW→fa g8}(H:E A (rU fa y::m) w):E A (rU fa y::rU fa y::m) w:=
 H.imp fun _ h ⟨I,O,ai,cQ,cU,Y,al⟩=>⟨fun _=>none,h,fun _=>.inl rfl,fun _ _ h=>(by cases h),cv.le_refl _,Y,I,O,ai,cQ,cU,Y,al⟩
theorem E.pF{fa:cv→Prop}{y:∀ {aW g8:cv},cv.le aW g8→fa aW→fa g8}(H:E A (rU fa y::m) w):∃ aW:cv,(∀ l G,aW l=some G→w.heap[l]?=some G)∧fa aW:=by
 obtain⟨aW,h,a,l,c,I,O,ai,cQ,cU,F,al⟩:=H.mem;exact⟨aW,l,F⟩
theorem E.Qk{fa vV:cv→Prop}{y:∀ {aW g8:cv},cv.le aW g8→fa aW→fa g8}{yF:∀ {aW g8:cv},cv.le aW g8→vV aW→vV g8}(h:∀ aW,fa aW→vV aW)(H:E A (rU fa y::m) w):E A (rU vV yF::m) w:=
 H.imp fun aW _ ⟨I,O,ai,cQ,cU,Y,al⟩=>⟨I,O,ai,cQ,cU,h aW Y,al⟩
theorem E.get{l:Nat}{G:Obj}(H:E A (ko l G::m) w):w.heap[l]?=some G:=by
 obtain⟨aW,h,a,tI,c,I,O,ai,cQ,cU,F,al⟩:=H.mem;exact c l G (cQ l G F)
theorem E.put{l:Nat}{G u:Obj}(H:E A (ko l G::m) w)(I:J.os=w.os)(O:J.tape=w.tape)(aJ:J.output=w.output)(bl:J.heap=w.heap.setIfInBounds l u):E A (ko l u::m) J:=by
 obtain⟨aW,h,a,tI,c,dn,dY,ai,cQ,cU,F,al⟩:=H.mem;have ao:=c l G (cQ l G F);have dC:l<w.heap.size:=(Array.getElem?_eq_some_iff.1 ao).1;refine⟨I.trans H.os,O.trans H.tape,aJ.trans H.output,by rw[bl]; simpa using H.size,aW,fun x=>if x=l then some u else dY x,?_,?_,?_,fun x=>if x=l then some u else none,dY,?_,?_,?_,?_,al⟩
 ·intro x;by_cases j:x=l
  ·subst j; exact .inl ((a x).resolve_right (by rw[cQ x G F]; simp))
  ·simp only[j,if_false];exact cv.Ad a cU x
 ·intro x v aK;rw[bl,Array.getElem?_setIfInBounds];have dT:l≠x:=by
   intro j; subst j;have:=(a l).resolve_right (by rw[cQ l G F]; simp);rw[this] at aK; cases aK
  rw[if_neg dT]; exact tI x v aK
 ·intro x v aK;rw[bl,Array.getElem?_setIfInBounds];by_cases j:x=l
  ·subst j; simp at aK; simp[dC,aK]
  ·simp only[j,if_false] at aK;rw[if_neg (fun h=>j h.symm)];exact c x v (cU x v aK)
 ·intro x;by_cases j:x=l
  ·subst j; right; exact (ai x).resolve_left (by rw[F]; simp)
  ·left; simp[j]
 ·intro x v aK;by_cases j:x=l<;>simp[j] at aK ⊢; exact aK
 ·intro x v aK;have:x≠l:=by
   intro j; subst j;have:=(ai x).resolve_left (by rw[F]; simp);rw[this] at aK; cases aK
  simp[this,aK]
 ·show (fun x=>if x=l then some u else none) l=some u
  simp
theorem E.alloc(G:Obj)(H:E A m w):E A (ko w.heap.size G::m) (w.alloc G):=by
 obtain⟨aW,h,a,tI,c,al⟩:=H.mem;have a7:aW w.heap.size=none:=by
  cases j:aW w.heap.size with
  |none=>rfl
  |some u=>have:=tI _ _ j; simp at this
 have cD:h w.heap.size=none:=by
  cases j:h w.heap.size with
  |none=>rfl
  |some u=>have:=c _ _ j; simp at this
 refine⟨H.os,H.tape,H.output,by have:=H.size; simp; omega,aW,fun x=>if x=w.heap.size then some G else h x,?_,?_,?_,fun x=>if x=w.heap.size then some G else none,h,?_,?_,?_,?_,al⟩
 ·intro x;by_cases j:x=w.heap.size
  ·subst j; exact .inl a7
  ·simp only[j,if_false]; exact a x
 ·intro x v aK;have dC:x<w.heap.size:=(Array.getElem?_eq_some_iff.1 (tI x v aK)).1;simp only[World.alloc,Array.getElem?_push];rw[if_neg (by omega)]; exact tI x v aK
 ·intro x v aK;simp only[World.alloc,Array.getElem?_push];by_cases j:x=w.heap.size
  ·simp[j] at aK ⊢; exact aK
  ·simp only[j,if_false] at aK ⊢; exact c x v aK
 ·intro x;by_cases j:x=w.heap.size
  ·right; rw[j]; exact cD
  ·left; simp[j]
 ·intro x v aK;by_cases j:x=w.heap.size<;>simp[j] at aK ⊢; exact aK
 ·intro x v aK;have:x≠w.heap.size:=by intro j; rw[j,cD] at aK; cases aK
  simp[this,aK]
 ·show (fun x=>if x=w.heap.size then some G else none) w.heap.size=some G
  simp
theorem E.stay{l:Nat}{G:Obj}(H:E A (ko l G::m) w):E A (rU (fun aW=>aW l=some G) (fun h k=>h _ _ k)::m) w:=by
 obtain⟨aW,h,a,tI,c,dn,dY,ai,cQ,cU,F,al⟩:=H.mem;have ao:=c l G (cQ l G F);have aom:aW l=none:=(a l).resolve_right (by rw[cQ l G F]; simp);have k3:cv.le aW (fun x=>if x=l then some G else aW x):=by
  intro x v aK;have:x≠l:=by intro j; rw[j,aom] at aK; cases aK
  simp[this,aK]
 refine⟨H.os,H.tape,H.output,H.size,fun x=>if x=l then some G else aW x,dY,?_,?_,?_,fun _=>none,dY,fun _=>.inl rfl,fun _ _ h=>(by cases h),cv.le_refl _,?_,iA.mono k3 (cv.le_refl _) al⟩
 ·intro x;by_cases j:x=l
  ·subst j; right; exact (ai x).resolve_left (by rw[F]; simp)
  ·simp only[j,if_false]; exact cv.Ad a cU x
 ·intro x v aK;by_cases j:x=l
  ·subst j; simp at aK; subst aK; exact ao
  ·simp only[j,if_false] at aK; exact tI x v aK
 ·intro x v aK; exact c x v (cU x v aK)
 ·show (fun x=>if x=l then some G else aW x) l=some G
  simp
end
section
variable {A w J:World} {m bT:List bC} {aO aT:bC} {Z:Type} {T:bu Z} {t:TypeId}
theorem lI(l G n:Nat):(⟨l,G,none⟩:Addr).add n=⟨l,G+n,none⟩:=by
 unfold Addr.add;by_cases h:n=0
 ·subst h; rfl
 ·rw[if_neg h]
theorem uT{l:Nat}{ba:Array Value}{nw:Nat×Nat}(h:w.heap[l]?=some (.cells ba t nw))(D:Nat):w.cell? ⟨l,D,none⟩=ba[D]?:=by
 simp[World.cell?,h]
theorem anZ{l:Nat}{ba:Array Value}(h:w.heap[l]?=some (.cells ba t))(D:Nat):w.frozen? ⟨l,D,none⟩=false:=by
 simp[World.frozen?,h]
def at_(ba:List Value)(G n:Nat):List Value:=(ba.drop G).take n
theorem ad6{l G:Nat}{ba xs:List Value}(H:E A (aH l ba t::m) w)(h:at_ ba G xs.length=xs):oT w ⟨l,G,none⟩ xs:=by
 intro D v aK;have ao:=H.get;rw[lI,uT ao];have dC:=(List.getElem?_eq_some_iff.1 aK).1;rw[← h] at aK;simp only[at_,List.getElem?_take,List.getElem?_drop] at aK;rw[if_pos dC] at aK;simpa using aK
theorem CI{l G n:Nat}{ba:List Value}(H:E A (aH l ba t::m) w)(h:G+n≤ba.length):wa w ⟨l,G,none⟩ n:=by
 intro D bR;have ao:=H.get;rw[lI];refine⟨?_,anZ ao _⟩;rw[uT ao];have:G+D<ba.toArray.size:=by simp; omega
 rw[Array.getElem?_eq_getElem this]; rfl
theorem bM{Z:Type}(T:bu Z){l G:Nat}{ba:List Value}{x:Z}{a:Addr}(H:E A (aH l ba t::m) w)(Y:a=⟨l,G,none⟩)(h:at_ ba G (T.cells x).length=T.cells x):L T a w x:=by subst Y; exact ad6 H h
def jv(ba:List Value)(G:Nat)(xs:List Value):List Value:=ba.take G++xs++ba.drop (G+xs.length)
theorem aHm(ba:List Value)(G:Nat)(v:Value)(xs:List Value)(h:G<ba.length):jv (ba.set G v) (G+1) xs=jv ba G (v::xs):=by
 simp only[jv,List.length_cons];rw[List.drop_set_of_lt (by omega),List.take_set,List.take_add_one];have I:ba[G]?.toList=[ba[G]]:=by rw[List.getElem?_eq_getElem h]; rfl
 rw[I];have O:(ba.take G++[ba[G]]).set G v=ba.take G++[v]:=by
  rw[List.set_append_right _ _ (by simp; omega)];have:G-(ba.take G).length=0:=by simp; omega
  rw[this]; rfl
 rw[O,show G+1+xs.length=G+(xs.length+1) from by omega];simp
theorem aHo(ba:List Value)(G:Nat)(xs:List Value)(h:G+xs.length≤ba.length):(jv ba G xs).length=ba.length:=by
 simp[jv]; omega
theorem aHq(ba:List Value)(G:Nat):jv ba G []=ba:=by simp[jv]
theorem aGW{l G:Nat}{ba:Array Value}{nw:Nat×Nat}{v:Value}(h:w.heap[l]?=some (.cells ba t nw)):(w.setCell ⟨l,G,none⟩ v).heap=w.heap.setIfInBounds l (.cells (ba.setIfInBounds G v) t nw):=by
 have dC:l<w.heap.size:=(Array.getElem?_eq_some_iff.1 h).1;simp only[World.setCell];apply Array.ext_getElem?;intro i;rw[Array.getElem?_modify,Array.getElem?_setIfInBounds];by_cases j:l=i
 ·subst j;have ao:w.heap[l]=.cells ba t nw:=by rw[Array.getElem?_eq_getElem dC] at h; exact Option.some.inj h
  simp[dC,ao]
 ·simp[j]
theorem Aj{l:Nat}:∀ (xs:List Value) (G i:Nat) (ba:List Value) (w:World),E A (aH l ba t::m) w→G+i+xs.length≤ba.length →
  E A (aH l (jv ba (G+i) xs) t::m) (oD w ⟨l,G,none⟩ i xs)
 |[],G,i,ba,w,H,_=>by rw[aHq]; exact H
 |v::xs,G,i,ba,w,H,al=>by
  have ao:=H.get;have dC:G+i<ba.length:=by simp at al; omega
  have gY:E A (aH l (ba.set (G+i) v) t::m) (w.setCell ⟨l,G+i,none⟩ v):=H.put rfl rfl rfl (by rw[aGW ao]; simp);have:=Aj xs G (i+1) (ba.set (G+i) v) _ gY (by simp at al ⊢; omega);rw[show G+(i+1)=G+i+1 from by omega,aHm _ _ _ _ dC] at this;simpa only[oD,lI] using this
theorem bP{x:Z}{k:Addr→World→Prop}(H:E A m w)(aq:∀ l J,E A (aH l (T.cells x) t::m) J→k ⟨l,0,none⟩ J):bO t T x w k:=aq _ _ (H.alloc _)
theorem vq{xs:List Z}{k:Addr→World→Prop}(H:E A m w)(aq:∀ l J,E A (aH l (xs.flatMap T.cells) t::m) J→k ⟨l,0,none⟩ J):ta t T xs w k:=aq _ _ (H.alloc _)
theorem wY{k:Nat→World→Prop}(H:E A m w)(aq:∀ l J,E A (ko l (.map #[] 0)::m) J→k l J):uf w k:=aq _ _ (H.alloc _)
theorem dp{k:World→Prop}(H:E A m w)(aq:∀ J,E A m J→k J):dl w k:=aq _ H.drew
theorem aj{l G:Nat}{ba:List Value}{x:Z}{a:Addr}{k:Z→Prop}(i:Nat)(H:E A m w)(ax:front i m=aH l ba t::bT)(Y:a=⟨l,G,none⟩)(F:at_ ba G (T.cells x).length=T.cells x)(aq:k x):ex (L T a w) k:=
 ⟨x,by subst Y; exact ad6 (ax▸H.front i) F,aq⟩
theorem dD{l G:Nat}{ba:List Value}{x:Z}{a:Addr}{k:World→Prop}(i:Nat)(H:E A m w)(ax:front i m=aH l ba t::bT)(Y:a=⟨l,G,none⟩)(al:G+(T.cells x).length≤ba.length)
  (aq:∀ J,E A (aH l (jv ba G (T.cells x)) t::bT) J→k J):bd T a x w k:=by
 subst Y;exact⟨CI (ax▸H.front i) al,aq _ (Aj (T.cells x) G 0 ba w (ax▸H.front i) (by simpa using al))⟩
theorem aP{Z:Type}{C k:Z→Prop}(x:Z)(h:C x)(aq:k x):ex C k:=⟨x,h,aq⟩
theorem cb{p:Option Addr}{a:Addr}{k:Addr→Prop}(h:p=some a)(aq:k a):ex (bK p) k:=⟨a,h,aq⟩
def K3(aO aT:bC):bC:=⟨fun aW h=>aO.p aW h∨aT.p aW h,fun a7 cD h=>h.imp (aO.mono a7 cD) (aT.mono a7 cD)⟩
theorem E.or(H:E A (K3 aO aT::m) w):E A (aO::m) w∨E A (aT::m) w:=by
 obtain⟨aW,h,a,l,c,I,O,ai,cQ,cU,F,al⟩:=H.mem;rcases F with F | F
 ·exact .inl ⟨H.os,H.tape,H.output,H.size,aW,h,a,l,c,I,O,ai,cQ,cU,F,al⟩
 ·exact .inr ⟨H.os,H.tape,H.output,H.size,aW,h,a,l,c,I,O,ai,cQ,cU,F,al⟩
theorem E.inl(H:E A (aO::m) w):E A (K3 aO aT::m) w:=H.imp fun _ _ ⟨I,O,ai,cQ,cU,Y,al⟩=>⟨I,O,ai,cQ,cU,.inl Y,al⟩
theorem E.inr(H:E A (aT::m) w):E A (K3 aO aT::m) w:=H.imp fun _ _ ⟨I,O,ai,cQ,cU,Y,al⟩=>⟨I,O,ai,cQ,cU,.inr Y,al⟩
def fz:af:=⟨none,0,0⟩
def row(T:bu Z)(t:TypeId)(ar:Nat)(s:af)(xs:List Z):bC:=
 K3 (lo (s=fz∧xs=[])) (hX fun l=>hX fun rest=>dA [lo (s.a=some ⟨l,0,none⟩∧s.len=xs.length∧s.len≤s.cap∧(s.cap-s.len)*ar≤rest.length),aH l (xs.flatMap T.cells++rest) t])
def c3(T:bu Z)(s:af)(xs:List Z)(aW:cv):Prop:=
 xs.length=s.len∧(xs=[]∨∃ l G arr t nw,s.a=some ⟨l,G,none⟩∧aW l=some (.cells arr t nw)∧∀ D v,(xs.flatMap T.cells)[D]?=some v→arr[G+D]?=some v)
theorem c3.mono{s:af}{xs:List Z}{aW g8:cv}(h:cv.le aW g8):c3 T s xs aW→c3 T s xs g8:=fun ⟨I,O⟩=>
 ⟨I,O.imp id fun ⟨l,G,arr,t,nw,aJ,bl,dq⟩=>⟨l,G,arr,t,nw,aJ,h _ _ bl,dq⟩⟩
def ro(T:bu Z)(s:af)(xs:List Z):bC:=rU (c3 T s xs) c3.mono
theorem kN(T:bu Z)(t:TypeId)(ar:Nat)(H:E A m w):E A (row T t ar fz []::m) w:=E.inl (E.vO ⟨rfl,rfl⟩ H)
theorem oG{ar:Nat}{s:af}{xs:List Z}(H:E A (row T t ar s xs::m) w) :
  (s=fz∧xs=[]∧E A m w)∨∃ l rest,s.a=some ⟨l,0,none⟩∧s.len=xs.length∧s.len≤s.cap∧(s.cap-s.len)*ar≤rest.length∧E A (aH l (xs.flatMap T.cells++rest) t::m) w:=by
 rcases H.or with H | H
 ·obtain⟨⟨I,O⟩,H⟩:=H.vy;exact .inl ⟨I,O,H⟩
 ·obtain⟨l,H⟩:=H.ex;obtain⟨rest,H⟩:=H.ex;have H:=H.open_;obtain⟨⟨I,O,aJ,bl⟩,H⟩:=E.vy (fa:=s.a=some ⟨l,0,none⟩∧s.len=xs.length∧s.len≤s.cap∧(s.cap-s.len)*ar≤rest.length) H;exact .inr ⟨l,rest,I,O,aJ,bl,H⟩
theorem ut{ar l:Nat}{rest:List Value}{s:af}{xs:List Z}(I:s.a=some ⟨l,0,none⟩)(O:s.len=xs.length)(aJ:s.len≤s.cap)(bl:(s.cap-s.len)*ar≤rest.length)(H:E A (aH l (xs.flatMap T.cells++rest) t::m) w) :
  E A (row T t ar s xs::m) w:=E.inr (E.mI l (E.mI rest (E.shut (bT:=[lo _,aH l (xs.flatMap T.cells++rest) t]) (E.vO ⟨I,O,aJ,bl⟩ H))))
theorem us{ar l:Nat}{xs:List Z}{y:Nat}(hm:y=xs.length)(H:E A (aH l (xs.flatMap T.cells) t::m) w):E A (row T t ar ⟨some ⟨l,0,none⟩,y,y⟩ xs::m) w:=
 ut (rest:=[]) rfl hm (Nat.le_refl _) (by simp) (by rw[List.append_nil]; exact H)
theorem gr{ar:Nat}{s:af}{xs:List Z}(H:E A (row T t ar s xs::m) w):s.len=xs.length:=by
 rcases oG H with ⟨rfl,rfl,_⟩ | ⟨l,rest,_,h,_⟩
 ·rfl
 ·exact h
theorem EK{s:af}{xs:List Z}(H:E A (ro T s xs::m) w):s.len=xs.length:=by
 obtain⟨aW,_,h⟩:=H.pF; exact h.1.symm
theorem vD{ar:Nat}{s:af}{xs:List Z}(H:E A (row T t ar s xs::m) w):E A (ro T s xs::m) w:=by
 rcases oG H with ⟨rfl,rfl,lz⟩ | ⟨l,rest,I,O,aJ,bl,H⟩
 ·exact lz.imp fun aW h al=>⟨fun _=>none,h,fun _=>.inl rfl,fun _ _ h=>(by cases h),cv.le_refl _,⟨rfl,.inl rfl⟩,al⟩
 ·refine E.Qk (fun aW a7=>⟨O.symm,.inr ⟨l,0,_,t,(0,0),I,a7,?_⟩⟩) H.stay;intro D v aK;have dC:=(List.getElem?_eq_some_iff.1 aK).1;rw[Nat.zero_add];simp only[List.getElem?_toArray];rw[List.getElem?_append_left dC]; exact aK
theorem ON{ar:Nat}(al:∀ x,(T.cells x).length=ar):∀ (xs:List Z) (i:Nat) (x:Z),xs[i]?=some x→∀ D v,(T.cells x)[D]?=some v→(xs.flatMap T.cells)[i*ar+D]?=some v
 |[],i,x,h,_,_,_=>by simp at h
 |S::xs,0,x,h,D,v,aK=>by
  simp at h; subst h;have dC:=(List.getElem?_eq_some_iff.1 aK).1;rw[List.flatMap_cons,Nat.zero_mul,Nat.zero_add,List.getElem?_append_left dC]; exact aK
 |S::xs,i+1,x,h,D,v,aK=>by
  have ck:=ON al xs i x (by simpa using h) D v aK;rw[List.flatMap_cons,List.getElem?_append_right (by rw[al,Nat.add_mul]; omega),al];rw[show (i+1)*ar+D-ar=i*ar+D from by rw[Nat.add_mul]; omega]; exact ck
theorem mj{ar:Nat}{s:af}{xs:List Z}{i:Int}{a:Addr}{x:Z}(al:∀ x,(T.cells x).length=ar)(Y:cM s ar i a)(F:xs[i.toNat]?=some x)(H:E A (row T t ar s xs::m) w):oT w a (T.cells x):=by
 obtain⟨c,U,ah,I,rfl⟩:=Y;rcases oG H with ⟨rfl,rfl,H⟩ | ⟨l,rest,O,aJ,bl,dq,H⟩
 ·cases U
 ·rw[O] at U; injection U with U; subst U
  have ao:=H.get;intro D v aK;rw[lI,lI,uT ao,Nat.zero_add];have:=ON al xs i.toNat x F D v aK;have dC:=(List.getElem?_eq_some_iff.1 this).1;simp only[List.getElem?_toArray];rw[List.getElem?_append_left dC]; exact this
theorem Ap{ar:Nat}{s:af}{xs:List Z}{i:Int}{a:Addr}{x:Z}(al:∀ x,(T.cells x).length=ar)(Y:cM s ar i a)(F:xs[i.toNat]?=some x)(H:E A (ro T s xs::m) w):oT w a (T.cells x):=by
 obtain⟨c,U,ah,I,rfl⟩:=Y;obtain⟨aW,a7,O,aJ | ⟨l,G,arr,th,nw,bl,dq,iu⟩⟩:=H.pF
 ·rw[aJ] at F; simp at F
 ·rw[bl] at U; injection U with U; subst U
  intro D v aK;rw[lI,lI,uT (a7 _ _ dq)];rw[show G+i.toNat*ar+D=G+(i.toNat*ar+D) from by omega];exact iu _ _ (ON al xs i.toNat x F D v aK)
theorem aa4{ar:Nat}{s:af}{xs:List Z}{i:Int}{k:Addr→Prop}(H:E A (row T t ar s xs::m) w)(ah:0≤i)(I:i<xs.length)(aq:∀ a,cM s ar i a→k a):ex (cM s ar i) k:=by
 rcases oG H with ⟨rfl,rfl,H⟩ | ⟨l,rest,O,aJ,_⟩
 ·simp at I; omega
 ·exact⟨_,⟨_,O,ah,by omega,rfl⟩,aq _ ⟨_,O,ah,by omega,rfl⟩⟩
theorem aBc{ar:Nat}{s:af}{xs:List Z}{i:Int}{k:Addr→Prop}(H:E A (ro T s xs::m) w)(ah:0≤i)(I:i<xs.length)(aq:∀ a,cM s ar i a→k a):ex (cM s ar i) k:=by
 obtain⟨aW,a7,O,aJ | ⟨l,G,arr,th,nw,bl,dq,iu⟩⟩:=H.pF
 ·rw[aJ] at I; simp at I; omega
 ·exact⟨_,⟨_,bl,ah,by omega,rfl⟩,aq _ ⟨_,bl,ah,by omega,rfl⟩⟩
theorem NP{a:Addr}{ba gJ:List Value}{G:Nat}(h:oT w a ba)(Y:a.spot=none)(aG:at_ ba G gJ.length=gJ):oT w (a.add G) gJ:=by
 intro D v aK;have dC:=(List.getElem?_eq_some_iff.1 aK).1;rw[← aG] at aK;simp only[at_,List.getElem?_take,List.getElem?_drop] at aK;rw[if_pos dC] at aK;have:=h (G+D) v aK;obtain⟨l,p,q⟩:=a;simp only at Y; subst Y;rw[lI,lI] at *;rw[show p+G+D=p+(G+D) from by omega]; exact this
theorem C7{ar:Nat}{s:af}{xs:List Z}(H:E A (row T t ar s xs::m) w):k_ T w s xs:=by
 rcases oG H with ⟨rfl,rfl,H⟩ | ⟨l,rest,O,aJ,bl,dq,H⟩
 ·exact⟨rfl,rfl⟩
 ·refine⟨aJ.symm,?_⟩;rw[O];have ao:=H.get;intro D v aK;have dC:=(List.getElem?_eq_some_iff.1 aK).1;rw[lI,uT ao,Nat.zero_add];simp only[List.getElem?_toArray];rw[List.getElem?_append_left dC]; exact aK
theorem W3{s:af}{xs:List Z}(H:E A (ro T s xs::m) w):k_ T w s xs:=by
 obtain⟨aW,a7,O,aJ | ⟨l,G,arr,th,nw,bl,dq,iu⟩⟩:=H.pF
 ·refine⟨O,?_⟩;subst aJ;generalize s.a=q;cases q with
  |none=>rfl
  |some a=>intro D v aK; simp at aK
 ·refine⟨O,?_⟩;rw[bl];intro D v aK;rw[lI,uT (a7 _ _ dq)];exact iu _ _ aK
theorem NZ{ar az:Nat}{s:af}{xs new:List Z}{k:af→World→Prop}(al:∀ x,(T.cells x).length=ar)(H:E A (row T t ar s xs::m) w)(ao:(xs.length+new.length)*az≤140737488355328)
  (aq:∀ r J,E A (row T t ar r (xs++new)::m) J→k r J):l7 t T ar az s new w k:=by
 have aL:=gr H;have qf:=C7 H;refine⟨fun U=>?_,fun U=>⟨by rw[aL]; exact ao,xs,qf,fun c rest I O=>?_⟩⟩
 ·rcases oG H with ⟨rfl,rfl,lz⟩ | ⟨l,rest,O,aJ,bl,dq,H⟩
  ·have ah:new=[]:=by
    cases new with
    |nil=>rfl
    |cons=>simp[fz] at U
   subst ah;exact aq _ _ (kN T t ar lz)
  ·rw[O];simp only[lI,Nat.zero_add];have m3:(xs.flatMap T.cells).length=s.len*ar:=by rw[nV al,aJ]
   have mE:(new.flatMap T.cells).length=new.length*ar:=nV al _;have tV:new.length*ar≤rest.length:=Nat.le_trans (Nat.mul_le_mul_right ar (by omega)) dq;refine⟨CI H (by simp[m3]; omega),aq _ _ ?_⟩;have:=Aj (new.flatMap T.cells) (s.len*ar) 0 _ _ H (by simp[m3,mE]; omega)
   refine ut (rest:=rest.drop (new.length*ar)) rfl (by simp; omega) (by simpa using U) (by
    rw[List.length_drop];have j:(s.cap-(s.len+new.length))*ar=(s.cap-s.len)*ar-new.length*ar:=by rw[← Nat.sub_mul]; congr 1; omega
    simp only
    rw[j]; omega) ?_
   have j:jv (xs.flatMap T.cells++rest) (s.len*ar+0) (new.flatMap T.cells)=(xs++new).flatMap T.cells++rest.drop (new.length*ar):=by
    simp only[jv,Nat.add_zero,mE];rw[← m3,List.take_left,List.drop_append];simp
   rw[j] at this;exact this
 ·have gY:E A m w.drew:=(H.drop).drew;refine aq _ _ (ut rfl (by simp; omega) I (by simpa using Nat.le_of_eq O.symm) (gY.alloc _))
theorem nu{ar az:Nat}{s:af}{xs new:List Z}{k:af→World→Prop}(al:∀ x,(T.cells x).length=ar)(i:Nat)(H:E A m w)(ax:front i m=row T t ar s xs::bT)(ao:(xs.length+new.length)*az≤140737488355328)
  (aq:∀ r J,E A (row T t ar r (xs++new)::bT) J→k r J):l6 t T ar az s new w k:=by
 have gY:E A (row T t ar s xs::bT) w:=ax▸H.front i;have g7:=gY.alloc (.cells (new.flatMap T.cells).toArray t);exact NZ al g7.drop ao aq
theorem Dp{ar az:Nat}{s l:af}{xs new:List Z}{k:af→World→Prop}(al:∀ x,(T.cells x).length=ar)(i:Nat)(H:E A m w)(ax:front i m=row T t ar s xs::bT)(aL:k_ T w l new)(ao:(xs.length+new.length)*az≤140737488355328)
  (aq:∀ r J,E A (row T t ar r (xs++new)::bT) J→k r J):tE t T ar az s l w k:=
 ⟨new,aL,NZ al (ax▸H.front i) ao aq⟩
end
section
variable {A w J:World} {m bT:List bC} {aO aT:bC} {Z:Type} {T:bu Z} {t:TypeId} {k:IntKind}
theorem s6(key:Int)(v:Z)(x:Int):∀ es:List (Int×Z),(eM key v es).lookup x=if x==key then some v else es.lookup x
 |[]=>by
  by_cases h:(x==key)=true
  ·simp[eM,List.lookup,h]
  ·simp only[Bool.not_eq_true] at h; simp[eM,List.lookup,h]
 |(a,l)::es=>by
  have ck:=s6 key v x es;simp only[eM];by_cases h:(key==a)=true
  ·have j:key=a:=by simpa using h
   subst j;by_cases g:(x==key)=true
   ·simp[List.lookup,g]
   ·simp only[Bool.not_eq_true] at g; simp[List.lookup,g]
  ·simp only[Bool.not_eq_true] at h;simp only[h,Bool.false_eq_true,if_false,List.lookup,ck];by_cases g:(x==a)=true
   ·have j:x=a:=by simpa using g
    subst j;have:(x==key)=false:=by simpa using fun j=>by simp[j] at h
    simp[this]
   ·simp only[Bool.not_eq_true] at g; simp[g]
theorem Km(key:Int)(v:Z):∀ es:List (Int×Z),(eM key v es).map (·.1)=if (es.lookup key).isSome then es.map (·.1) else es.map (·.1)++[key]
 |[]=>rfl
 |(a,l)::es=>by
  have ck:=Km key v es;simp only[eM];by_cases h:(key==a)=true
  ·have j:key=a:=by simpa using h
   subst j; simp[List.lookup]
  ·simp only[Bool.not_eq_true] at h;simp only[h,Bool.false_eq_true,if_false,List.lookup,List.map_cons,ck];split<;>simp
theorem Ht{key:Int}:∀ {es:List (Int×Z)},es.lookup key=none↔key∉es.map (·.1)
 |[]=>by simp
 |(a,l)::es=>by
  by_cases h:(key==a)=true
  ·have j:key=a:=by simpa using h
   subst j; simp[List.lookup]
  ·simp only[Bool.not_eq_true] at h;have j:key≠a:=by simpa using h
   simp only[List.lookup,h,List.map_cons,List.mem_cons,j,false_or];exact Ht
theorem Er{key:Int}{v:Z}{es:List (Int×Z)}(h:(es.map (·.1)).Nodup):((eM key v es).map (·.1)).Nodup:=by
 rw[Km];split
 ·exact h
 ·rename_i aL;have:es.lookup key=none:=by cases j:es.lookup key with | none=>rfl | some u=>rw[j] at aL; simp at aL
  rw[List.nodup_append];refine⟨h,by simp,?_⟩;intro a Y l ao j;simp at ao; subst ao; subst j;exact Ht.1 this Y
theorem QG{key:Int}:∀ {es:List (Int×Z)},((del key es).map (·.1)).Sublist (es.map (·.1))
 |[]=>.slnil
 |(a,l)::es=>by
  simp only[del];split
  ·exact (List.sublist_cons_self _ _)
  ·exact (QG (es:=es)).cons_cons a
theorem Q4{key:Int}{es:List (Int×Z)}(h:(es.map (·.1)).Nodup):((del key es).map (·.1)).Nodup:=h.sublist QG
theorem Hs(key x:Int):∀ es:List (Int×Z),(es.map (·.1)).Nodup→(del key es).lookup x=if x==key then none else es.lookup x
 |[],_=>by simp[del]
 |(a,l)::es,h=>by
  have aL:a∉es.map (·.1):=(List.nodup_cons.1 h).1;have ck:=Hs key x es (List.nodup_cons.1 h).2;simp only[del];by_cases g:(key==a)=true
  ·have j:key=a:=by simpa using g
   subst j;simp only[g,if_true,List.lookup];by_cases q:(x==key)=true
   ·have j:x=key:=by simpa using q
    subst j; simp[Ht.2 aL]
   ·simp only[Bool.not_eq_true] at q; simp[q]
  ·simp only[Bool.not_eq_true] at g;simp only[g,Bool.false_eq_true,if_false,List.lookup,ck];by_cases q:(x==a)=true
   ·have j:x=a:=by simpa using q
    subst j;have:(x==key)=false:=by simpa using fun j=>by simp[j] at g
    simp[this]
   ·simp only[Bool.not_eq_true] at q; simp[q]
def c_(T:bu Z)(k:IntKind)(r:Nat)(es:List (Int×Z)):bC:=hX fun arr=>hX fun c=>dA [lo (sB T k arr es∧qP arr c∧(es.map (·.1)).Nodup),ko r (.map arr c)]
theorem yH{r:Nat}{es:List (Int×Z)}(H:E A (c_ T k r es::m) w):∃ arr c,sB T k arr es∧qP arr c∧(es.map (·.1)).Nodup∧E A (ko r (.map arr c)::m) w:=by
 obtain⟨arr,H⟩:=H.ex;obtain⟨c,H⟩:=H.ex;have H:=H.open_;obtain⟨⟨I,ao,O⟩,H⟩:=E.vy (fa:=sB T k arr es∧qP arr c∧(es.map (·.1)).Nodup) H;exact⟨arr,c,I,ao,O,H⟩
theorem KB{r:Nat}{es:List (Int×Z)}{arr:Array MapEntry}{c:Nat}(I:sB T k arr es)(ao:qP arr c)(O:(es.map (·.1)).Nodup)(H:E A (ko r (.map arr c)::m) w):E A (c_ T k r es::m) w:=
 E.mI arr (E.mI c (E.shut (bT:=[lo _,ko r (.map arr c)]) (E.vO ⟨I,ao,O⟩ H)))
theorem Hu{r:Nat}{es:List (Int×Z)}(H:E A (c_ T k r es::m) w):(es.map (·.1)).Nodup:=by
 obtain⟨_,_,_,_,h,_⟩:=yH H; exact h
theorem wU{r:Nat}(T:bu Z)(k:IntKind)(H:E A (ko r (.map #[] 0)::m) w):E A (c_ T k r []::m) w:=KB (by simp[sB]) ⟨by simp,by simp⟩ (by simp) H
theorem mc{r:Nat}{es:List (Int×Z)}{key:Int}{aa:Option Z→Prop}{y:Option Nat}(i:Nat)(H:E A m w)(ax:front i m=c_ T k r es::bT)(hm:y=some r)(aq:aa (es.lookup key)):ex (iq T k y key w) aa:=by
 obtain⟨arr,c,I,yb,O,H⟩:=yH (ax▸H.front i);subst hm;exact⟨_,⟨es,⟨arr,c,H.get,I,yb⟩,rfl⟩,aq⟩
theorem abE{r:Nat}{es:List (Int×Z)}{aa:Nat→Prop}{y:Option Nat}(i:Nat)(H:E A m w)(ax:front i m=c_ T k r es::bT)(hm:y=some r)(aq:aa es.length):ex (rK y w) aa:=by
 obtain⟨arr,c,I,yb,O,H⟩:=yH (ax▸H.front i);subst hm;have al:es.length=arr.size:=by have:=congrArg List.length I; simpa using this.symm
 exact⟨_,⟨arr,c,H.get,al⟩,aq⟩
theorem aey{r:Nat}{G:Obj}{arr:Array MapEntry}{c:Nat}(H:E A (ko r G::m) w):E A (ko r (.map arr c)::m) (vE w r arr c):=H.put rfl rfl rfl rfl
theorem r8{r:Nat}{es:List (Int×Z)}{key:Int}{v:Z}{aa:World→Prop}{y:Option Nat}(i:Nat)(H:E A m w)(ax:front i m=c_ T k r es::bT)(hm:y=some r)
  (aq:∀ J,E A (c_ T k r (eM key v es)::bT) J→aa J):qk T k y key v w aa:=by
 obtain⟨arr,c,I,yb,O,H⟩:=yH (ax▸H.front i);exact⟨r,es,hm,⟨arr,c,H.get,I,yb⟩,fun uO Jc fr u3=>aq _ (KB fr u3 (Er O) (aey H))⟩
theorem QT{r:Nat}{es:List (Int×Z)}{key:Int}{aa:World→Prop}{y:Option Nat}(i:Nat)(H:E A m w)(ax:front i m=c_ T k r es::bT)(hm:y=some r)
  (aq:∀ J,E A (c_ T k r (del key es)::bT) J→aa J):Hv T k y key w aa:=by
 obtain⟨arr,c,I,yb,O,H⟩:=yH (ax▸H.front i);subst hm;exact⟨es,⟨arr,c,H.get,I,yb⟩,fun uO Jc fr u3=>aq _ (KB fr u3 (Q4 O) (aey H))⟩
theorem wrap_i64{x:Int}(ah:-9223372036854775808≤x)(I:x≤9223372036854775807):IntKind.i64.wrap x=x:=by
 rw[IntKind.wrap_i64]; omega
theorem H_{s r:af}{ar:Nat}{i h y:Int}(H:Sub s ar i h y r):r.len=(h-i).toNat∧r.cap=(y-i).toNat∧(∀ l G,s.a=some ⟨l,G,none⟩→y≠i→r.a=some ⟨l,G+i.toNat*ar,none⟩):=by
 obtain⟨ah,I,O,aJ,rfl⟩:=H;refine⟨by simp; omega,by simp; omega,fun l G ao hm=>?_⟩;have:y.toNat≠i.toNat:=by omega
 simp only[this,if_false,ao,Option.map_some,lI]
theorem ob{s:af}{ar:Nat}{i h y:Int}{aa:af→Prop}(ah:0≤i)(I:i≤h)(O:h≤y)(aJ:y≤s.cap)(aq:∀ r,Sub s ar i h y r→aa r):ex (Sub s ar i h y) aa:=⟨_,⟨ah,I,O,aJ,rfl⟩,aq _ ⟨ah,I,O,aJ,rfl⟩⟩
theorem aGv{ar:Nat}{s r:af}{xs:List Z}{h:Int}(al:∀ x,(T.cells x).length=ar)(aG:Sub s ar 0 h s.cap r)(cD:h≤xs.length)(H:E A (row T t ar s xs::m) w):r=⟨s.a,h.toNat,s.cap⟩∧E A (row T t ar r (xs.take h.toNat)::m) w:=by
 obtain⟨ah,I,O,aJ,rfl⟩:=aG;have j:(⟨if (s.cap:Int).toNat=(0:Int).toNat then s.a else s.a.map (·.add ((0:Int).toNat*ar)),h.toNat-(0:Int).toNat,(s.cap:Int).toNat-(0:Int).toNat⟩:af)=⟨s.a,h.toNat,s.cap⟩:=by
  have:(fun x:Addr=>x.add 0)=id:=by funext x; simp[Addr.add]
  simp[this]
 refine⟨j,?_⟩;rw[j];rcases oG H with ⟨rfl,rfl,lz⟩ | ⟨l,rest,bA,eR,je,nx,H⟩
 ·have:h.toNat=0:=by simp at cD; omega
  rw[this]; exact kN T t ar lz
 ·refine ut (rest:=(xs.drop h.toNat).flatMap T.cells++rest) bA (by simp; omega) (by simp only; omega) ?_ ?_
  ·rw[List.length_append,nV al,List.length_drop];have j:(s.cap-h.toNat)*ar=(xs.length-h.toNat)*ar+(s.cap-s.len)*ar:=by rw[← Nat.add_mul]; congr 1; omega
   simp only;rw[j]; omega
  ·rw[← List.append_assoc,← List.flatMap_append,List.take_append_drop]; exact H
theorem ad5{ar:Nat}{s r:af}{xs:List Z}{i:Int}(al:∀ x,(T.cells x).length=ar)(aG:Sub s ar i s.len s.cap r)(H:E A (row T t ar s xs::m) w):k_ T w r (xs.drop i.toNat):=by
 obtain⟨bA,eR,je⟩:=H_ aG;obtain⟨ah,I,O,aJ,ab⟩:=aG;have aL:=gr H;refine⟨by rw[bA,List.length_drop]; omega,?_⟩;rcases oG H with ⟨rfl,rfl,H⟩ | ⟨l,rest,dn,dY,gM,jG,H⟩
 ·have Y:r.a=none:=by
   rw[ab];show (if (fz.cap:Int).toNat=i.toNat then fz.a else fz.a.map (·.add (i.toNat*ar)))=none
   split<;>rfl
  rw[Y]; simp[FZ]
 ·by_cases j:(s.cap:Int)=i
  ·have:xs.drop i.toNat=[]:=List.drop_eq_nil_of_le (by omega);rw[this];cases aJ8:r.a with
   |none=>rfl
   |some a=>intro D v aK; simp at aK
  ·rw[je l 0 dn j];intro D v aK;have ao:=H.get;rw[lI,uT ao,Nat.zero_add];simp only[List.getElem?_toArray];have ag:(xs.drop i.toNat).flatMap T.cells=(xs.flatMap T.cells).drop (i.toNat*ar):=by
    have:xs.flatMap T.cells=(xs.take i.toNat).flatMap T.cells++(xs.drop i.toNat).flatMap T.cells:=by rw[← List.flatMap_append,List.take_append_drop]
    have pL:((xs.take i.toNat).flatMap T.cells).length=i.toNat*ar:=by rw[nV al,List.length_take]; congr 1; omega
    rw[this,← pL,List.drop_left]
   rw[ag,List.getElem?_drop] at aK;have dC:=(List.getElem?_eq_some_iff.1 aK).1;rw[List.getElem?_append_left dC]; exact aK
theorem aj7{ar az:Nat}{s l:af}{xs new:List Z}{aa:af→World→Prop}(al:∀ x,(T.cells x).length=ar)(H:E A (row T t ar s xs::m) w)(aL:k_ T w l new)(U:s.len+new.length≤s.cap)
  (aq:∀ J,E A (row T t ar ⟨s.a,s.len+new.length,s.cap⟩ (xs++new)::m) J→aa ⟨s.a,s.len+new.length,s.cap⟩ J):tE t T ar az s l w aa:=by
 refine⟨new,aL,fun _=>?_,fun R=>absurd U (by omega)⟩;rcases oG H with ⟨rfl,rfl,lz⟩ | ⟨akq,rest,O,aJ,bl,dq,H⟩
 ·have ah:new=[]:=by
   cases new with
   |nil=>rfl
   |cons=>simp[fz] at U
  subst ah;exact aq _ (kN T t ar lz)
 ·rw[O];rw[O] at aq;simp only[lI,Nat.zero_add];have m3:(xs.flatMap T.cells).length=s.len*ar:=by rw[nV al,aJ]
  have mE:(new.flatMap T.cells).length=new.length*ar:=nV al _;have tV:new.length*ar≤rest.length:=Nat.le_trans (Nat.mul_le_mul_right ar (by omega)) dq;refine⟨CI H (by simp[m3]; omega),aq _ ?_⟩;have:=Aj (new.flatMap T.cells) (s.len*ar) 0 _ _ H (by simp[m3,mE]; omega)
  refine ut (rest:=rest.drop (new.length*ar)) rfl (by simp; omega) (by simpa using U) (by
   rw[List.length_drop];have j:(s.cap-(s.len+new.length))*ar=(s.cap-s.len)*ar-new.length*ar:=by rw[← Nat.sub_mul]; congr 1; omega
   simp only
   rw[j]; omega) ?_
  have j:jv (xs.flatMap T.cells++rest) (s.len*ar+0) (new.flatMap T.cells)=(xs++new).flatMap T.cells++rest.drop (new.length*ar):=by
   simp only[jv,Nat.add_zero,mE];rw[← m3,List.take_left,List.drop_append];simp
  rw[j] at this;exact this
theorem alE{ar:Nat}{s r:af}{xs:List Z}{z:Z}{y:Int}{aa:World→Prop}(al:∀ x,(T.cells x).length=ar)(aG:Sub s ar s.len y s.cap r)(H:E A (row T t ar s xs::m) w)(aq:∀ J,E A (row T t ar s xs::m) J→aa J):wm T ar z r w aa:=by
 obtain⟨bA,eR,je⟩:=H_ aG;obtain⟨ah,I,O,aJ,ab⟩:=aG;rcases oG H with ⟨rfl,rfl,lz⟩ | ⟨l,rest,dn,dY,gM,jG,gY⟩
 ·simp only[fz] at ab; subst ab; simpa[wm] using aq w H
 ·by_cases j:(s.cap:Int)=s.len
  ·have ah:r.len=0:=by rw[bA]; omega
   unfold wm;split
   ·exact aq w H
   ·rw[ah];refine⟨fun D bR=>absurd bR (by omega),?_⟩;simpa[oD] using aq w H
  ·have Y:=je l 0 dn j;unfold wm;rw[Y];have m3:(xs.flatMap T.cells).length=s.len*ar:=by rw[nV al,dY]
   have wF:((List.replicate r.len z).flatMap T.cells).length=r.len*ar:=by rw[nV al]; simp
   have k3:r.len*ar≤rest.length:=Nat.le_trans (Nat.mul_le_mul_right ar (by rw[bA]; omega)) jG;have hH:((s.len:Int).toNat)=s.len:=by simp
   rw[hH];refine⟨CI gY (by simp only[List.length_append,m3]; omega),aq _ ?_⟩;have:=Aj ((List.replicate r.len z).flatMap T.cells) (0+s.len*ar) 0 _ _ gY (by simp only[List.length_append,m3,wF]; omega);refine ut (rest:=jv rest 0 ((List.replicate r.len z).flatMap T.cells)) dn dY gM (by rw[aHo _ _ _ (by rw[wF]; omega)]; exact jG) ?_;have DE:jv (xs.flatMap T.cells++rest) (0+s.len*ar+0) ((List.replicate r.len z).flatMap T.cells)=xs.flatMap T.cells++jv rest 0 ((List.replicate r.len z).flatMap T.cells):=by
    simp only[jv,Nat.add_zero,Nat.zero_add,List.take_zero,List.nil_append,wF];rw[← m3,List.take_left,List.drop_append];simp
   rw[DE] at this;exact this
end
end bf
namespace bf
open Go.RowKit
section
variable {A w J:World} {m bT:List bC} {aO aT:bC} {Z ey:Type} {T:bu Z} {c6:bu ey} {t:TypeId}
theorem vo{bx:Type}{body:bx→World→(bx→World→Prop)→Prop}{s:bx}{w:World}(aW:bx→World→Prop)(to:bx→Nat)(ah:aW s w)
  (h:∀ s w,aW s w→body s w fun fB J=>aW fB J∧to fB<to s):e2 body s w:=⟨aW,fun s _=>to s,ah,h⟩
theorem kM{ar:Nat}{s:af}{xs:List Z}{i:Int}(H:E A (row T t ar s xs::m) w)(ah:0≤i)(I:i<xs.length):∃ a,cM s ar i a:=by
 obtain⟨a,h,_⟩:=aa4 (k:=fun _=>True) H ah I fun _ _=>trivial;exact⟨a,h⟩
theorem y0{ar:Nat}{s:af}{xs:List Z}{i:Int}(H:E A (ro T s xs::m) w)(ah:0≤i)(I:i<xs.length):∃ a,cM s ar i a:=by
 obtain⟨a,h,_⟩:=aBc (k:=fun _=>True) H ah I fun _ _=>trivial;exact⟨a,h⟩
theorem aeg{ar:Nat}{s:af}{xs:List Z}{i:Int}{a:Addr}(Y:cM s ar i a)(H:E A (row T t ar s xs::m) w):a.spot=none:=by
 obtain⟨c,U,ah,I,rfl⟩:=Y;rcases oG H with ⟨rfl,rfl,H⟩ | ⟨l,rest,O,aJ,bl,dq,H⟩
 ·cases U
 ·rw[O] at U; injection U with U; subst U; rw[lI]
theorem Sh{ar:Nat}{s:af}{xs:List Z}{i:Int}{a:Addr}(Y:cM s ar i a)(H:E A (ro T s xs::m) w):a.spot=none:=by
 obtain⟨c,U,ah,I,rfl⟩:=Y;obtain⟨aW,a7,O,aJ | ⟨l,G,arr,th,nw,bl,dq,iu⟩⟩:=H.pF
 ·rw[aJ] at O; simp at O; omega
 ·rw[bl] at U; injection U with U; subst U; rw[lI]
theorem qd{ar G:Nat}{s:af}{xs:List Z}{i:Int}{a:Addr}{x:Z}{S:ey}(al:∀ x,(T.cells x).length=ar)(Y:cM s ar i a)(F:xs[i.toNat]?=some x)(aG:at_ (T.cells x) G (c6.cells S).length=c6.cells S)
  (H:E A (row T t ar s xs::m) w):L c6 (a.add G) w S:=NP (mj al Y F H) (aeg Y H) aG
theorem JD{ar G:Nat}{s:af}{xs:List Z}{i:Int}{a:Addr}{x:Z}{S:ey}(al:∀ x,(T.cells x).length=ar)(Y:cM s ar i a)(F:xs[i.toNat]?=some x)(aG:at_ (T.cells x) G (c6.cells S).length=c6.cells S)
  (H:E A (ro T s xs::m) w):L c6 (a.add G) w S:=NP (Ap al Y F H) (Sh Y H) aG
def old(A:World):bC:=rU (fun aW=>cv.le (fun l=>A.heap[l]?) aW) (fun h k=>cv.le_trans k h)
theorem E.start(A:World):E A [old A] A:=
 ⟨rfl,rfl,rfl,Nat.le_refl _,fun l=>A.heap[l]?,fun _=>none,fun _=>.inr rfl,fun _ _ h=>h,fun _ _ h=>(by cases h),
  fun _=>none,fun _=>none,fun _=>.inl rfl,fun _ _ h=>(by cases h),fun _ _ h=>(by cases h),cv.le_refl _,trivial⟩
theorem E.below(H:E A (old A::m) w):Below A.heap.size A w:=
 ⟨H.os,H.tape,H.output,H.size,fun k aq=>by
  obtain⟨aW,a7,k3⟩:=E.pF (y:=fun h k=>cv.le_trans k h) H;have j:A.heap[k]?=some (A.heap[k]'aq):=Array.getElem?_eq_getElem aq;rw[j]
  exact a7 _ _ (k3 _ _ j)⟩
theorem tF(ba:List Value):at_ ba 0 ba.length=ba:=by simp[at_]
theorem aHl{ba xs:List Value}(h:ba.length=xs.length):jv ba 0 xs=xs:=by simp[jv,← h]
theorem eh{l:Nat}{x:Z}{k:Z→Prop}(i:Nat)(H:E A m w)(ax:front i m=aH l (T.cells x) t::bT)(aq:k x):ex (L T ⟨l,0,none⟩ w) k:=aj i H ax rfl (tF _) aq
theorem c5{l n:Nat}{x S:Z}{k:World→Prop}(al:∀ x,(T.cells x).length=n)(i:Nat)(H:E A m w)(ax:front i m=aH l (T.cells x) t::bT)(aq:∀ J,E A (aH l (T.cells S) t::bT) J→k J):bd T ⟨l,0,none⟩ S w k:=
 dD i H ax rfl (by rw[al,al]; omega) fun J H=>aq J (by rw[aHl (by rw[al,al])] at H; exact H)
end
end bf
namespace bf
open Go.RowKit Go.ChangeShapes Go.WideShapes Go.Deep
section
variable {H:Type} {enc:TypeId×Value→H} {P:Program} {A:World} {base:Nat} {spare:Nat→Bool} {held:Bool} {Z:Type}
def qR(enc:TypeId×Value→H)(P:Program)(A:World)(base:Nat)(spare:Nat→Bool)(held:Bool)(t:TypeId)(T:bu Z)(ay:Z→Prop):Prop:=
 ∀ ox ba x,DataW.trod enc P A base spare held ox t ba=some x→∃ S:Z,ba=T.cells S∧ay S
theorem ack{t:TypeId}{k:IntKind}(aS:P.underlying t=some (.int k)):qR enc P A base spare held t (B k) fun n=>k.min≤n∧n≤k.max:=by
 intro ox ba x h;obtain⟨n,rfl,_,hw⟩:=DataW.trod_int aS h;refine⟨n,rfl,?_⟩;simpa[Lit.wf] using hw
theorem aDY{t:TypeId}(aS:P.underlying t=some (.float .f64)):qR enc P A base spare held t gP fun l=>l<18446744073709551616:=by
 intro ox ba x h;cases ox with
 |zero=>simp[DataW.trod] at h
 |succ n=>
  unfold DataW.trod at h;rw[aS] at h;split at h<;>try (simp_all; done)
  have aq:some (TypeDesc.float FloatKind.f64)=some (TypeDesc.float _):=‹_›;cases aq;split at h
  ·rename_i U;obtain⟨rfl,hw⟩:=U;exact⟨_,rfl,by simpa[Lit.wf] using hw⟩
  ·cases h
theorem anU{T:bu Z}{ar:Nat}(al:∀ x,(T.cells x).length=ar):∀ (xs:List Z) (D:Nat) (v:Value),(xs.flatMap T.cells)[D]?=some v→∃ i k x,D=i*ar+k∧k<ar∧xs[i]?=some x∧(T.cells x)[k]?=some v:=by
 intro xs;induction xs with
 |nil=>intro D v h; simp at h
 |cons x xs ck=>
  intro D v h;rw[List.flatMap_cons] at h;by_cases bR:D<ar
  ·rw[List.getElem?_append_left (by rw[al]; exact bR)] at h;exact⟨0,D,x,by omega,bR,rfl,h⟩
  ·rw[List.getElem?_append_right (by rw[al]; omega),al] at h;obtain⟨i,k,S,j,aq,aB,aK⟩:=ck _ _ h;refine⟨i+1,k,S,?_,aq,aB,aK⟩;rw[Nat.add_mul,Nat.one_mul]; omega
theorem Aa{n:Nat}{p:Nat→Z→Prop}(h:∀ i,i<n→∃ x,p i x):∃ xs:List Z,xs.length=n∧∀ i x,xs[i]?=some x→p i x:=by
 induction n with
 |zero=>exact⟨[],rfl,fun i x h=>(by simp at h)⟩
 |succ n ck=>
  obtain⟨xs,I,O⟩:=ck fun i ax=>h i (by omega);obtain⟨x,F⟩:=h n (by omega);refine⟨xs++[x],by simp[I],fun i S aB=>?_⟩;by_cases ax:i<n
  ·rw[List.getElem?_append_left (by omega)] at aB; exact O i S aB
  ·rw[List.getElem?_append_right (by omega)] at aB;have:i=n:=by
    rcases Nat.lt_or_ge (i-xs.length) 1 with h | h
    ·omega
    ·rw[List.getElem?_eq_none (by simpa using h)] at aB; cases aB
   subst this;simp[I] at aB; subst aB; exact F
theorem ak0{w:World}{l G:Nat}{v:Value}(h:w.cell? ⟨l,G,none⟩=some v):∃ arr t nw,w.heap[l]?=some (.cells arr t nw)∧arr[G]?=some v:=by
 unfold World.cell? at h;split at h
 ·rename_i arr t nw ao; exact⟨arr,t,nw,ao,by simpa using h⟩
 ·simp at h
theorem Ro{t j:TypeId}{T:bu Z}{ay:Z→Prop}{ar:Nat}(aS:P.underlying t=some (.slice j))(U:P.cellsOf j=ar)(bL:0<ar)(al:∀ x,(T.cells x).length=ar)(OZ:qR enc P A base spare held j T ay) :
  qR enc P A base spare held t X fun s=>(s.len≤s.cap∧s.cap≤9223372036854775807)∧∃ xs,(∀ x∈xs,ay x)∧c3 T s xs fun l=>A.heap[l]?:=by
 intro ox ba x h;rcases open_slice aS h with ⟨rfl,_⟩ | ⟨a,len,cap,y,n,K,bN,rfl,ao,I,O,hm,_,F⟩
 ·exact⟨⟨none,0,0⟩,rfl,⟨Nat.le_refl _,Nat.zero_le _⟩,[],(fun _ h=>by cases h),rfl,.inl rfl⟩
 ·refine⟨⟨some a,len,cap⟩,rfl,⟨I,Nat.le_trans O (Nat.le_of_ble_eq_true rfl)⟩,?_⟩;have aJ2:len≤y:=by rw[hm]; split<;>omega
  have each:∀ i,i<len→∃ S:Z,ay S∧∀ k v,(T.cells S)[k]?=some v→A.cell? (a.add (i*ar+k))=some v:=by
   intro i ax;obtain⟨alX,bA,eR⟩:=F i (by omega);obtain⟨S,rfl,aB⟩:=OZ _ _ _ eR;rw[U] at bA;obtain⟨_,_,je⟩:=World.cells?_some bA;refine⟨S,aB,fun k v aK=>?_⟩;have aq:=(List.getElem?_eq_some_iff.1 aK).1;rw[al] at aq;have:=je k aq;rw[aK] at this;rw[add_add] at this;exact this
  obtain⟨xs,g3,rl⟩:=Aa each;refine⟨xs,?_,g3,?_⟩
  ·intro x F;obtain⟨i,ax,j⟩:=List.getElem_of_mem F;exact (rl i x (by rw[List.getElem?_eq_getElem ax,j])).1
  ·cases xs with
   |nil=>exact .inl rfl
   |cons bF aK6=>
    right;obtain⟨_,g⟩:=rl 0 bF rfl;obtain⟨l,G,vG⟩:=a;have dC:0<(T.cells bF).length:=by rw[al]; exact bL
    have cX:=g 0 _ (List.getElem?_eq_getElem dC);have ll:vG=none:=by simpa[Addr.add] using World.cell?_spot cX
    subst ll;rw[lI] at cX;obtain⟨arr,th,nw,ao,_⟩:=ak0 cX;refine⟨l,G,arr,th,nw,rfl,ao,fun D v bR=>?_⟩;obtain⟨i,k,S,rfl,aq,aB,aK⟩:=anU al _ _ _ bR;have:=(rl i S aB).2 k v aK;rw[lI] at this;rw[uT ao] at this;exact this
theorem Rn{t:TypeId}{is:Array Field}{n:Nat}{C:Z→List Value}{ay:Z→Prop}(aS:P.underlying t=some (.struct is))(U:P.cellsOf t=n)
  (h:∀ ba:List Value,ba.length=n→(∀ (i off hq ar:Nat),(∃ f,is[i]?=some f∧f.offset=off∧f.type=hq)→P.cellsOf hq=ar→∃ y x,DataW.trod enc P A base spare held y hq ((ba.drop off).take ar)=some x)→∃ S,ba=C S∧ay S) :
  qR enc P A base spare held t (h3 C) ay:=by
 intro ox ba x F;obtain⟨xs,y,_,_,al,z2,am⟩:=DataW.trod_struct aS F;refine h ba (al.trans U) ?_;rintro i off hq ar ⟨f,u6,rfl,rfl⟩ rfl;have:=am i f u6;have ax:i<is.size:=(Array.getElem?_eq_some_iff.1 u6).1;exact⟨y,xs[i]'(by omega),by rw[this]; exact List.getElem?_eq_getElem _⟩
theorem q7{ba a l:List Value}{G k:Nat}(h:(ba.drop G).take k=a)(O:ba.drop (G+k)=l):ba.drop G=a++l:=by
 rw[← h,← O,← List.drop_drop]; exact (List.take_append_drop _ _).symm
theorem Ol{ba:List Value}{n:Nat}(h:ba.length=n):ba.drop n=[]:=List.drop_eq_nil_of_le (by omega)
theorem Jd{Z:Type}{T:bu Z}{f:FuncId}{args:List Value}{w:World}{k:Z→World→Prop}(h:M P f args T w k):Calls P f args.toArray w fun j J=>∃ x,j=.returned (T.enc x)∧k x J:=
 h.mono fun j J h=>by
  cases j with
  |returned v=>obtain⟨x,rfl,h⟩:=h; exact⟨x,rfl,h⟩
  |_=>exact h.elim
theorem wi{t:TypeId}{T:bu Z}{ay:Z→Prop}{v:Value}{d:DataW H}{eG:List MemPlace}(tR:qR enc P A base spare held t T ay)(h:DataW.Trod enc P A base spare held t v d eG):∃ S,v.cells.toList=T.cells S∧ay S:=by
 obtain⟨y,hm⟩:=h;exact tR _ _ _ hm
theorem HK{v:Value}{T:bu Z}{S:Z}(h:v.cells.toList=T.cells S)(I:v.cells=#[v])(O:T.cells S=[T.enc S]):v=T.enc S:=by
 rw[I,O] at h; simpa using h
theorem F7{ba:Array Value}{C:Z→List Value}{S:Z}(h:(Value.agg ba).cells.toList=C S):Value.agg ba=.agg (C S).toArray:=by
 have:ba.toList=C S:=h;rw[← this]
end
end bf
namespace bf
open Go.RowKit
section
variable {A w J:World} {m:List bC}
theorem E.grown(H:E A m w)(ao:Below w.heap.size w J):E A m J:=by
 obtain⟨aW,h,a,bt,bI,al⟩:=H.mem;have old:∀ l G,w.heap[l]?=some G→J.heap[l]?=some G:=fun l G j=>by
  rw[ao.block l (Array.getElem?_eq_some_iff.1 j).1]; exact j
 exact⟨ao.os.trans H.os,ao.tape.trans H.tape,ao.output.trans H.output,Nat.le_trans H.size ao.size,aW,h,a,fun l G j=>old l G (bt l G j),fun l G j=>old l G (bI l G j),al⟩
theorem E.made{g:Nat}{G:Obj}(H:E A m w)(ao:Below w.heap.size w J)(R:w.heap.size≤g)(ai:J.heap[g]?=some G):E A (ko g G::m) J:=by
 have IN:=H.grown ao;obtain⟨aW,h,a,bt,bI,al⟩:=H.mem;have a7:aW g=none:=by
  cases j:aW g with
  |none=>rfl
  |some u=>have:=(Array.getElem?_eq_some_iff.1 (bt _ _ j)).1; omega
 have cD:h g=none:=by
  cases j:h g with
  |none=>rfl
  |some u=>have:=(Array.getElem?_eq_some_iff.1 (bI _ _ j)).1; omega
 have old:∀ l G,w.heap[l]?=some G→J.heap[l]?=some G:=fun l G j=>by
  rw[ao.block l (Array.getElem?_eq_some_iff.1 j).1]; exact j
 refine⟨IN.os,IN.tape,IN.output,IN.size,aW,fun x=>if x=g then some G else h x,?_,fun l G j=>old l G (bt l G j),?_,fun x=>if x=g then some G else none,h,?_,?_,?_,?_,al⟩
 ·intro x;by_cases j:x=g
  ·subst j; exact .inl a7
  ·simp only[j,if_false]; exact a x
 ·intro x v aK;by_cases j:x=g
  ·subst j; simp at aK; subst aK; exact ai
  ·simp only[j,if_false] at aK; exact old _ _ (bI x v aK)
 ·intro x;by_cases j:x=g
  ·right; rw[j]; exact cD
  ·left; simp[j]
 ·intro x v aK;by_cases j:x=g<;>simp[j] at aK ⊢; exact aK
 ·intro x v aK;have:x≠g:=by intro j; rw[j,cD] at aK; cases aK
  simp[this,aK]
 ·show (fun x=>if x=g then some G else none) g=some G
  simp
theorem E.ownsRow{Z:Type}{T:bu Z}{j:TypeId}{ar n:Nat}{v:Value}{xs:List Z}(al:∀ x,(T.cells x).length=ar)(aL:n=xs.length)(H:E A m w)(ao:Below w.heap.size w J)
  (ai:J.ownsRow w.heap.size j ar v n (xs.flatMap T.cells)):∃ s:af,v=X.enc s∧E A (row T j ar s xs::m) J:=by
 obtain⟨g3,⟨rfl,ah⟩ | ⟨g,cap,jR,rfl,R,cD,I,O,aJ,bl⟩⟩:=ai
 ·have:xs=[]:=List.eq_nil_of_length_eq_zero (by omega);subst this;exact⟨fz,rfl,kN T j ar (H.grown ao)⟩
 ·refine⟨⟨some ⟨g,0,none⟩,n,cap⟩,rfl,?_⟩;refine ut (rest:=jR.toList.drop (n*ar)) rfl aL I ?_ ?_
  ·simp only[List.length_drop,Array.length_toList,aJ,Nat.sub_mul];exact Nat.le_refl _
  ·have:=H.made ao R cD;have aR:xs.flatMap T.cells++jR.toList.drop (n*ar)=jR.toList:=by rw[← bl,List.take_append_drop]
   rw[aR];simpa[aH] using this
end
section
variable {A w J:World} {m bT:List bC} {aO aT:bC} {Z ey:Type} {T:bu Z} {c6:bu ey} {fa vV:cv→Prop}
def b6(m:List bC)(fa:cv→Prop):Prop:=∀ aW h,iA m aW h→fa aW
theorem b6.here{y:∀ {aW g8:cv},cv.le aW g8→fa aW→fa g8}:b6 (rU fa y::m) fa:=fun _ _ ⟨_,_,_,_,_,Y,_⟩=>Y
theorem b6.tail(k:b6 m fa):b6 (aO::m) fa:=fun aW _ ⟨_,O,_,_,_,_,al⟩=>k aW O al
theorem b6.imp(k:b6 m fa)(h:∀ aW,fa aW→vV aW):b6 m vV:=fun aW q al=>h aW (k aW q al)
theorem b6.l7(k:b6 m fa):∀ bT:List bC,b6 (bT++m) fa
 |[]=>k
 |_::bT=>(b6.l7 k bT).tail
theorem b6.and(k:b6 m fa)(fS:b6 m vV):b6 m fun aW=>fa aW∧vV aW:=fun aW q al=>⟨k aW q al,fS aW q al⟩
theorem E.z7{y:∀ {aW g8:cv},cv.le aW g8→fa aW→fa g8}(k:b6 m fa)(H:E A m w):E A (rU fa y::m) w:=
 H.imp fun aW h al=>⟨fun _=>none,h,fun _=>.inl rfl,fun _ _ h=>(by cases h),cv.le_refl _,k aW h al,al⟩
theorem b6.pF(k:b6 m fa)(H:E A m w):∃ aW:cv,(∀ l G,aW l=some G→w.heap[l]?=some G)∧fa aW:=by
 obtain⟨aW,h,a,l,c,al⟩:=H.mem;exact⟨aW,l,k aW h al⟩
theorem E.ro{s:af}{xs:List Z}(k:b6 m (c3 T s xs))(H:E A m w):E A (ro T s xs::m) w:=H.z7 (y:=c3.mono) k
theorem b6.len{s:af}{xs:List Z}(k:b6 m (c3 T s xs))(H:E A m w):s.len=xs.length:=EK (H.ro k)
theorem b6.iw{ar:Nat}{s:af}{xs:List Z}{i:Int}(k:b6 m (c3 T s xs))(H:E A m w)(ah:0≤i)(I:i<xs.length):∃ a,cM s ar i a:=y0 (H.ro k) ah I
theorem b6.rd{ar:Nat}{s:af}{xs:List Z}{i:Int}{a:Addr}{x:Z}(k:b6 m (c3 T s xs))(al:∀ x,(T.cells x).length=ar)(Y:cM s ar i a)(F:xs[i.toNat]?=some x)(H:E A m w):oT w a (T.cells x):=Ap al Y F (H.ro k)
theorem b6.m2{ar G:Nat}{s:af}{xs:List Z}{i:Int}{a:Addr}{x:Z}{S:ey}(k:b6 m (c3 T s xs))(al:∀ x,(T.cells x).length=ar)(Y:cM s ar i a)(F:xs[i.toNat]?=some x)(aG:at_ (T.cells x) G (c6.cells S).length=c6.cells S)
  (H:E A m w):L c6 (a.add G) w S:=JD al Y F aG (H.ro k)
theorem b6.Ct{s:af}{xs:List Z}(k:b6 m (c3 T s xs))(H:E A m w):k_ T w s xs:=W3 (H.ro k)
theorem c3.nil:c3 T fz []=fun _=>True:=by funext aW; simp[c3,fz]
theorem b6.nil:b6 m (c3 T fz []):=fun _ _ _=>⟨rfl,.inl rfl⟩
theorem b6.below(k:b6 m fun aW=>cv.le (fun l=>A.heap[l]?) aW)(H:E A m w):Below A.heap.size A w:=E.below (H.z7 (y:=fun h k=>cv.le_trans k h) k)
theorem b6.old{s:af}{xs:List Z}(k:b6 m fun aW=>cv.le (fun l=>A.heap[l]?) aW)(h:c3 T s xs fun l=>A.heap[l]?):b6 m (c3 T s xs):=k.imp fun _ a7=>c3.mono a7 h
end
section
variable {A w J:World} {m bT:List bC} {aO aT:bC} {Z ey:Type} {T:bu Z} {c6:bu ey} {t:TypeId} {fa vV:cv→Prop}
theorem EL{ar:Nat}{s:af}{xs:List Z}(H:E A (row T t ar s xs::m) w):s.len≤s.cap:=by
 rcases oG H with ⟨rfl,rfl,_⟩ | ⟨l,rest,_,_,h,_⟩
 ·exact Nat.le_refl _
 ·exact h
theorem c3.sub{ar:Nat}{s r:af}{xs:List Z}{i h y:Int}{aW:cv}(al:∀ x,(T.cells x).length=ar)(aG:Sub s ar i h y r)(cD:h≤xs.length)(k:c3 T s xs aW):c3 T r ((xs.take h.toNat).drop i.toNat) aW:=by
 obtain⟨bA,eR,je⟩:=H_ aG;obtain⟨ah,I,O,aJ,_⟩:=aG;have g3:((xs.take h.toNat).drop i.toNat).length=(h-i).toNat:=by rw[List.length_drop,List.length_take]; omega
 refine⟨by rw[g3,bA],?_⟩;by_cases j:y=i
 ·left;exact List.eq_nil_of_length_eq_zero (by rw[g3]; omega)
 ·rcases k.2 with rfl | ⟨l,G,arr,th,nw,dn,dY,gM⟩
  ·left; simp
  ·right;refine⟨l,G+i.toNat*ar,arr,th,nw,je l G dn j,dY,fun D v aK=>?_⟩;have a9:xs.flatMap T.cells=(xs.take i.toNat).flatMap T.cells++(((xs.take h.toNat).drop i.toNat).flatMap T.cells++(xs.drop h.toNat).flatMap T.cells):=by
    have df:xs.take i.toNat=(xs.take h.toNat).take i.toNat:=by rw[List.take_take,Nat.min_eq_left (by omega)]
    rw[df,← List.append_assoc,← List.flatMap_append,List.take_append_drop,← List.flatMap_append,List.take_append_drop]
   have m0:((xs.take i.toNat).flatMap T.cells).length=i.toNat*ar:=by rw[nV al,List.length_take]; congr 1; omega
   rw[Nat.add_assoc];refine gM (i.toNat*ar+D) v ?_;rw[a9,← m0,List.getElem?_append_right (by omega),Nat.add_sub_cancel_left];rw[List.getElem?_append_left (List.getElem?_eq_some_iff.1 aK).1]; exact aK
theorem b6.sub{ar:Nat}{s r:af}{xs:List Z}{i h y:Int}(k:b6 m (c3 T s xs))(al:∀ x,(T.cells x).length=ar)(aG:Sub s ar i h y r)(cD:h≤xs.length):b6 m (c3 T r ((xs.take h.toNat).drop i.toNat)):=k.imp fun _=>c3.sub al aG cD
theorem Si{ar:Nat}{s r:af}{xs:List Z}{h:Int}(al:∀ x,(T.cells x).length=ar)(aG:Sub s ar 0 h h r)(cD:h≤xs.length)(H:E A (row T t ar s xs::m) w):r=⟨s.a,h.toNat,h.toNat⟩∧E A (row T t ar r (xs.take h.toNat)::m) w:=by
 obtain⟨ah,I,O,aJ,rfl⟩:=aG;have j:(⟨if h.toNat=(0:Int).toNat then s.a else s.a.map (·.add ((0:Int).toNat*ar)),h.toNat-(0:Int).toNat,h.toNat-(0:Int).toNat⟩:af)=⟨s.a,h.toNat,h.toNat⟩:=by
  have:(fun x:Addr=>x.add 0)=id:=by funext x; simp[Addr.add]
  simp[this]
 refine⟨j,?_⟩;rw[j];rcases oG H with ⟨rfl,rfl,lz⟩ | ⟨l,rest,bA,eR,je,nx,H⟩
 ·have:h.toNat=0:=by simp at cD; omega
  rw[this]; exact kN T t ar lz
 ·refine ut (rest:=(xs.drop h.toNat).flatMap T.cells++rest) bA (by simp; omega) (Nat.le_refl _) (by simp) ?_;rw[← List.append_assoc,← List.flatMap_append,List.take_append_drop]; exact H
end
end bf
namespace bf
open Go.RowKit Go.ChangeMaps
section
variable {A w J:World} {m bT:List bC} {aO aT:bC} {Z ey:Type} {T:bu Z} {c6:bu ey} {t:TypeId} {fa vV:cv→Prop} {k:IntKind}
theorem aBG{p:Nat→Prop}:∀ n,p n→∃ y,y≤n∧p y∧∀ D,p D→y≤D:=by
 intro n;induction n using Nat.strongRecOn with
 |_ n ck=>
  intro h;by_cases c:∃ D,D<n∧p D
  ·obtain⟨D,I,O⟩:=c;obtain⟨y,aJ,bl,dq⟩:=ck D I O;exact⟨y,by omega,bl,dq⟩
  ·exact⟨n,Nat.le_refl n,h,fun D bR=>Nat.le_of_not_lt fun dC=>c ⟨D,dC,bR⟩⟩
theorem Ej{bx:Type}{body:bx→World→(bx→World→Prop)→Prop}{s:bx}{w:World}(aW:Nat→bx→World→Prop)(n:Nat)(ah:aW n s w)
  (h:∀ n s w,aW n s w→∀ aa,(∀ y fB J,y<n→aW y fB J→aa fB J)→body s w aa):e2 body s w:=by
 classical
 have pick:∀ s w,∃ y,(∃ n,aW n s w)→aW y s w∧∀ D,aW D s w→y≤D:=by
  intro s w;by_cases c:∃ n,aW n s w
  ·obtain⟨n,aL⟩:=c;obtain⟨y,_,I,O⟩:=aBG (p:=fun n=>aW n s w) n aL;exact⟨y,fun _=>⟨I,O⟩⟩
  ·exact⟨0,fun U=>absurd U c⟩
 refine⟨fun s w=>∃ n,aW n s w,fun s w=>(pick s w).choose,⟨n,ah⟩,fun s w a7=>?_⟩;obtain⟨I,O⟩:=(pick s w).choose_spec a7;refine h _ s w I _ fun y fB J hm DO=>⟨⟨y,DO⟩,?_⟩
 exact Nat.lt_of_le_of_lt (((pick fB J).choose_spec ⟨y,DO⟩).2 y DO) hm
structure Way{Z:Type}(T:bu Z)(k:IntKind)(arr:Array MapEntry)(c:Nat)(es:List (Int×Z))(left:List (Int×Z))(jR:Option (Int×Z))(h2:Nat)(seen:Array Nat)(b7:Nat):Prop where
 iM:sB T k arr es
 born:qP arr c
 dup:(es.map (·.1)).Nodup
 aad:∀ x∈arr.toList,x.born<h2
 le:h2≤b7
 abq:h2≤c
 GU:(leftOf arr seen).toList.map (fun j=>(j.key,j.val))=left.map fun p=>(.int k p.1,T.enc p.2)
 abp:(left.map (·.1)).Nodup
 sub:∀ p∈left,p∈es
 ao6:∀ p,jR=some p→b7=c∧∃ j∈arr.toList,∃ s,seen=Array.push s (MapEntry.born j)∧j.key=.int k p.1∧j.val=T.enc p.2
def rA(T:bu Z)(k:IntKind)(r it:Nat)(es left:List (Int×Z))(jR:Option (Int×Z)):bC:=
 hX fun arr=>hX fun c=>hX fun h2=>hX fun seen=>hX fun b7=>dA [lo (Way T k arr c es left jR h2 seen b7),ko r (.map arr c),ko it (.mapIter (some r) h2 seen b7)]
theorem R7{r it:Nat}{es left:List (Int×Z)}{jR:Option (Int×Z)}(H:E A (rA T k r it es left jR::m) w):∃ arr c h2 seen b7,Way T k arr c es left jR h2 seen b7∧E A (ko r (.map arr c)::ko it (.mapIter (some r) h2 seen b7)::m) w:=by
 obtain⟨arr,H⟩:=H.ex;obtain⟨c,H⟩:=H.ex;obtain⟨h2,H⟩:=H.ex;obtain⟨seen,H⟩:=H.ex;obtain⟨b7,H⟩:=H.ex;have H:=H.open_;obtain⟨h,H⟩:=E.vy (fa:=Way T k arr c es left jR h2 seen b7) H;exact⟨arr,c,h2,seen,b7,h,H⟩
theorem adY{r it:Nat}{es left:List (Int×Z)}{jR:Option (Int×Z)}{arr:Array MapEntry}{c h2 b7:Nat}{seen:Array Nat}(h:Way T k arr c es left jR h2 seen b7)(H:E A (ko r (.map arr c)::ko it (.mapIter (some r) h2 seen b7)::m) w):E A (rA T k r it es left jR::m) w:=
 E.mI arr (E.mI c (E.mI h2 (E.mI seen (E.mI b7 (E.shut (bT:=[lo _,ko r (.map arr c),ko it (.mapIter (some r) h2 seen b7)]) (E.vO h H))))))
theorem HX{r it:Nat}{es left:List (Int×Z)}{jR:Option (Int×Z)}(H:E A (rA T k r it es left jR::m) w):E A (c_ T k r es::m) w:=by
 obtain⟨arr,c,h2,seen,b7,h,H⟩:=R7 H;exact KB h.iM h.born h.dup ((H.front 1).drop)
theorem aBH(arr:Array MapEntry):leftOf arr #[]=arr:=by
 unfold leftOf;exact Array.filter_eq_self.2 fun x F=>by simp
theorem Sg{r:Nat}{es:List (Int×Z)}{aa:Addr→World→Prop}{y:Option Nat}(i:Nat)(H:E A m w)(ax:front i m=c_ T k r es::bT)(hm:y=some r)
  (aq:∀ it J,E A (rA T k r it es es none::bT) J→aa ⟨it,0,none⟩ J):H0 y w aa:=by
 obtain⟨arr,c,I,yb,O,H⟩:=yH (ax▸H.front i);subst hm;refine⟨arr,c,H.get,aq _ _ (adY ⟨I,yb,O,yb.1,Nat.le_refl c,Nat.le_refl c,by rw[aBH]; exact I,O,fun p aE=>aE,fun p aE=>by cases aE⟩ ?_)⟩;exact (H.alloc _).front 1
theorem aGU{r:Nat}{G u:Obj}(H:E A (ko r G::m) w):E A (ko r u::m) (setBlock w r u):=H.put rfl rfl rfl rfl
theorem aBI(arr:Array MapEntry)(seen:Array Nat)(l:Nat):(leftOf arr (seen.push l)).toList=(leftOf arr seen).toList.filter fun x=>x.born != l:=by
 unfold leftOf;simp only[Array.toList_filter,List.filter_filter];refine List.filter_congr fun x _=>?_;simp only[Array.contains_push,Bool.not_or];rw[Bool.and_comm]; rfl
theorem KL{Ix aJr:Type}{g:Ix→aJr}:∀ {N:List Ix},(N.map g).Nodup→∀ x∈N,∀ S∈N,g x=g S→x=S
 |[],_,x,F,_,_,_=>by cases F
 |z::N,h,x,F,S,aB,j=>by
  have fr:=List.nodup_cons.1 h;rcases List.mem_cons.1 F with wE | wE
  ·rcases List.mem_cons.1 aB with yq | yq
   ·rw[wE,yq]
   ·exact absurd (List.mem_map.2 ⟨S,yq,by rw[← j,wE]⟩) fr.1
  ·rcases List.mem_cons.1 aB with yq | yq
   ·exact absurd (List.mem_map.2 ⟨x,wE,by rw[j,yq]⟩) fr.1
   ·exact KL fr.2 x wE S yq j
theorem aBJ{arr:Array MapEntry}{seen:Array Nat}{left:List (Int×Z)}{j:MapEntry}{p:Int×Z}(ao:(arr.toList.map (·.born)).Nodup)(ag:(left.map (·.1)).Nodup)(al:(leftOf arr seen).toList.map (fun j=>(j.key,j.val))=left.map fun p=>(.int k p.1,T.enc p.2))
  (he:j∈(leftOf arr seen).toList) (aR:j.key=.int k p.1) :
  (leftOf arr (seen.push j.born)).toList.map (fun j=>(j.key,j.val))=(left.filter fun q=>q.1 != p.1).map fun p=>(.int k p.1,T.enc p.2):=by
 rw[aBI];have BN:(leftOf arr seen).toList.Sublist arr.toList:=by unfold leftOf; rw[Array.toList_filter]; exact List.filter_sublist
 have ZF:((leftOf arr seen).toList.map (·.born)).Nodup:=ao.sublist (BN.map _);generalize (leftOf arr seen).toList=aO at al he ZF;have r0:aO.map (·.key)=left.map fun p=>Value.int k p.1:=by
  have:=congrArg (List.map Prod.fst) al;simpa[List.map_map,Function.comp_def] using this
 have aqf:(aO.map (·.key)).Nodup:=by
  rw[r0];have j:(left.map fun p=>Value.int k p.1)=(left.map (·.1)).map (Value.int k):=by simp
  rw[j];exact List.Pairwise.map _ (fun a l h j=>h (by injection j)) ag
 have I:(aO.filter fun x=>x.born != j.born)=aO.filter ((fun aBA:Value×Value=>RowKit.intOf aBA.1 != p.1)∘fun x=>(x.key,x.val)):=by
  refine List.filter_congr fun x F=>?_;have:x.key∈aO.map (·.key):=List.mem_map.2 ⟨x,F,rfl⟩;rw[r0] at this;obtain⟨q,a8,eq⟩:=List.mem_map.1 this;have a9:RowKit.intOf x.key=q.1:=by rw[← eq]; rfl
  show (x.born != j.born)=(RowKit.intOf x.key != p.1)
  rw[a9,Bool.eq_iff_iff,bne_iff_ne,bne_iff_ne];constructor
  ·intro h zX;have:x=j:=KL aqf x F j he (by rw[← eq,aR,zX]);exact h (by rw[this])
  ·intro h aoY;have:x=j:=KL ZF x F j he aoY;rw[this,aR] at eq;injection eq with _ eq
   exact h eq
 rw[I,← List.filter_map,al,List.filter_map];rfl
theorem Q_{r it:Nat}{es left:List (Int×Z)}{jR:Option (Int×Z)}{aa:Option (Value×Value)→World→Prop}{a:Addr}(i:Nat)(H:E A m w)(ax:front i m=rA T k r it es left jR::bT)(Y:a=⟨it,0,none⟩)
  (ah:left=[]→E A (rA T k r it es left jR::bT) w→aa none w)
  (I:∀ p∈left,∀ J,E A (rA T k r it es (left.filter fun q=>q.1 != p.1) (some p)::bT) J→aa (some (.int k p.1,T.enc p.2)) J):k4 a w aa:=by
 have lz:E A (rA T k r it es left jR::bT) w:=ax▸H.front i;obtain⟨arr,c,h2,seen,b7,h,gY⟩:=R7 lz;have ao:=gY.get;have ab:=(gY.front 1).get;refine⟨it,r,h2,seen,b7,arr,c,Y,ab,ao,h.aad,h.le,fun bL=>ah ?_ lz,fun j he dF G8=>?_⟩
 ·have aL:(leftOf arr seen).toList=[]:=by
   apply List.eq_nil_of_length_eq_zero;simpa using bL
  have al:=h.GU;rw[aL] at al;cases GU:left with
  |nil=>rfl
  |cons p q=>rw[GU] at al; cases al
 ·have apf:j∈arr.toList:=by
   unfold leftOf at he;simp at he ⊢;exact he.1
  have sZ:(j.key,j.val)∈(leftOf arr seen).toList.map fun j=>(j.key,j.val):=List.mem_map.2 ⟨j,he,rfl⟩;rw[h.GU] at sZ;obtain⟨p,aE,YK⟩:=List.mem_map.1 sZ;have aR:j.key=.int k p.1:=(Prod.mk.inj YK).1.symm;have a9:j.val=T.enc p.2:=(Prod.mk.inj YK).2.symm;rw[aR,a9];have g7:E A (ko r (.map arr c)::ko it (.mapIter (some r) h2 seen b7)::bT) dF:=by
   rcases G8 with rfl | rfl
   ·exact gY
   ·exact gY.drew
  refine I p aE _ (adY (arr:=arr) (c:=c) (h2:=h2) (seen:=seen.push j.born) (b7:=c) ⟨h.iM,h.born,h.dup,h.aad,h.abq,h.abq,?_,?_,fun q a8=>h.sub q (List.mem_filter.1 a8).1,fun q a8=>?_⟩ ((aGU (g7.front 1)).front 1))
  ·exact aBJ h.born.2 h.abp h.GU he aR
  ·exact h.abp.sublist (List.filter_sublist.map _)
  ·cases a8;exact⟨rfl,j,apf,seen,rfl,aR,a9⟩
theorem OG{r it:Nat}{es left:List (Int×Z)}{p:Int×Z}{aa:Int×Z→Prop}{a:Addr}(i:Nat)(H:E A m w)(ax:front i m=rA T k r it es left (some p)::bT)(Y:a=⟨it,0,none⟩)(aq:aa p):ex (kk T k a w) aa:=by
 have lz:E A (rA T k r it es left (some p)::bT) w:=ax▸H.front i;obtain⟨arr,c,h2,seen,b7,h,gY⟩:=R7 lz;have ao:=gY.get;have ab:=(gY.front 1).get;obtain⟨rfl,j,he,s,rfl,aR,a9⟩:=h.ao6 p rfl;exact⟨p,⟨it,r,h2,s,arr,b7,j,Y,ab,ao,he,h.born.2,aR,a9⟩,aq⟩
theorem Bi{f:ey→bC}{cQ cU:List ey}{j:ey}(H:E A (dA ((cQ++j::cU).map f)::m) w):E A (f j::dA ((cQ++cU).map f)::m) w:=by
 have H:=H.open_;have aE:((cQ++j::cU).map f++m).Perm ((cQ++cU).map f++(f j::m)):=by
  simp only[List.map_append,List.map_cons,List.append_assoc,List.cons_append];refine List.Perm.append_left _ ?_;exact (List.perm_middle (l₁:=cU.map f) (a:=f j) (l₂:=m)).symm
 exact (E.shut (H.perm aE)).front 1
theorem wj{f:ey→bC}{cQ cU:List ey}{j:ey}(H:E A (f j::dA ((cQ++cU).map f)::m) w):E A (dA ((cQ++j::cU).map f)::m) w:=by
 have H:=(H.front 1).open_;have aE:((cQ++cU).map f++(f j::m)).Perm ((cQ++j::cU).map f++m):=by
  simp only[List.map_append,List.map_cons,List.append_assoc,List.cons_append];refine List.Perm.append_left _ ?_;exact List.perm_middle
 exact E.shut (H.perm aE)
end
end bf
namespace bf
open Go.RowKit
section
variable {A w J:World} {m bT:List bC} {aO aT:bC} {Z ey:Type} {T:bu Z} {c6:bu ey} {t:TypeId}
theorem Hw{ar az:Nat}{n:Int}{z:Z}{aa:af→World→Prop}(ah:0≤n)(I:(az:Int)*n≤281474976710656)(O:n≤9223372036854775807)(H:E A m w)
  (aq:∀ l J,E A (row T t ar ⟨some ⟨l,0,none⟩,n.toNat,n.toNat⟩ (List.replicate n.toNat z)::m) J→aa ⟨some ⟨l,0,none⟩,n.toNat,n.toNat⟩ J):yI t T az z n n w aa:=
 ⟨ah,Int.le_refl _,I,O,aq _ _ (us (by simp) (H.alloc _))⟩
theorem Jl{ar:Nat}{s l:af}{xs new:List Z}{aa:Nat→World→Prop}(al:∀ x,(T.cells x).length=ar)(H:E A (row T t ar s xs::m) w)(aL:k_ T w l new)(he:new.length=xs.length)
  (aq:∀ J,E A (row T t ar s new::m) J→aa new.length J):Dy T ar s l w aa:=by
 have aG:=gr H;refine⟨new,by rw[← aL.1,aG]; omega,?_,?_⟩
 ·exact⟨rfl,aL.2⟩
 ·rcases oG H with ⟨rfl,rfl,lz⟩ | ⟨akq,rest,O,aJ,bl,dq,H⟩
  ·have:new=[]:=List.length_eq_zero_iff.1 he;subst this;exact aq _ (kN T t ar lz)
  ·rw[O];have m3:(xs.flatMap T.cells).length=xs.length*ar:=nV al _;have mE:(new.flatMap T.cells).length=new.length*ar:=nV al _;refine⟨CI H (by simp[m3,he]),aq _ ?_⟩;have:=Aj (new.flatMap T.cells) 0 0 _ _ H (by simp[m3,mE,he]);refine ut (rest:=rest) O (by rw[he]; exact aJ) bl dq ?_;have j:jv (xs.flatMap T.cells++rest) (0+0) (new.flatMap T.cells)=new.flatMap T.cells++rest:=by
    unfold jv;simp only[Nat.zero_add,Nat.add_zero,List.take_zero,List.nil_append];rw[mE,he,← m3,List.drop_left]
   rw[j] at this;exact this
def di(ar:Nat)(m:List bC)(T:bu Z)(s:af)(xs:List Z):Prop:=∀ (A:World) (bT:List bC) (w:World),E A (bT++m) w →
 s.len=xs.length∧k_ T w s xs∧∀ i:Int,0≤i→i<xs.length→∃ a,cM s ar i a∧a.spot=none∧∀ x,xs[i.toNat]?=some x→oT w a (T.cells x)
theorem di.ro{ar:Nat}{s:af}{xs:List Z}(al:∀ x,(T.cells x).length=ar)(k:b6 m (c3 T s xs)):di ar m T s xs:=fun A bT w H=>by
 have H:=H.ro (k.l7 bT);refine⟨EK H,W3 H,fun i ah I=>?_⟩;obtain⟨a,Y⟩:=y0 (ar:=ar) (i:=i) H ah I;exact⟨a,Y,Sh Y H,fun x F=>Ap al Y F H⟩
theorem di.row{ar:Nat}{s:af}{xs:List Z}(al:∀ x,(T.cells x).length=ar)(i:Nat)(ax:front i m=row T t ar s xs::bT):di ar m T s xs:=fun A cQ w H=>by
 have aE:(cQ++m).Perm (bf.row T t ar s xs::(cQ++bT)):=((OR i m).append_left cQ).trans (by rw[ax]; exact List.perm_middle);have H:=H.perm aE;refine⟨gr H,C7 H,fun i ah I=>?_⟩;obtain⟨a,Y⟩:=kM (ar:=ar) (i:=i) H ah I;exact⟨a,Y,aeg Y H,fun x F=>mj al Y F H⟩
theorem di.l7{ar:Nat}{s:af}{xs:List Z}(k:di ar m T s xs)(bT:List bC):di ar (bT++m) T s xs:=fun A cQ w H=>k A (cQ++bT) w (by rw[List.append_assoc]; exact H)
theorem di.tail{ar:Nat}{s:af}{xs:List Z}(k:di ar m T s xs):di ar (aO::m) T s xs:=k.l7 [aO]
theorem di.len{ar:Nat}{s:af}{xs:List Z}(k:di ar m T s xs)(H:E A m w):s.len=xs.length:=(k A [] w H).1
theorem di.iw{ar:Nat}{s:af}{xs:List Z}{i:Int}(k:di ar m T s xs)(H:E A m w)(ah:0≤i)(I:i<xs.length):∃ a,cM s ar i a:=by
 obtain⟨a,h,_⟩:=(k A [] w H).2.2 i ah I; exact⟨a,h⟩
theorem aa3{ar:Nat}{s:af}{i:Int}{a l:Addr}(h:cM s ar i a)(k:cM s ar i l):a=l:=by
 obtain⟨c,U,_,_,rfl⟩:=h;obtain⟨d,ag,_,_,rfl⟩:=k;rw[U] at ag; injection ag with ag; rw[ag]
theorem di.rd{ar:Nat}{s:af}{xs:List Z}{i:Int}{a:Addr}{x:Z}(k:di ar m T s xs)(Y:cM s ar i a)(F:xs[i.toNat]?=some x)(H:E A m w):oT w a (T.cells x):=by
 have dC:=(List.getElem?_eq_some_iff.1 F).1;have ah:0≤i:=by obtain⟨_,_,h,_⟩:=Y; exact h
 obtain⟨l,ao,_,h⟩:=(k A [] w H).2.2 i ah (by omega);rw[aa3 Y ao]; exact h x F
theorem di.m2{ar G:Nat}{s:af}{xs:List Z}{i:Int}{a:Addr}{x:Z}{S:ey}(k:di ar m T s xs)(Y:cM s ar i a)(F:xs[i.toNat]?=some x)(aG:at_ (T.cells x) G (c6.cells S).length=c6.cells S)
  (H:E A m w):L c6 (a.add G) w S:=by
 have dC:=(List.getElem?_eq_some_iff.1 F).1;have ah:0≤i:=by obtain⟨_,_,h,_⟩:=Y; exact h
 obtain⟨l,ao,ll,h⟩:=(k A [] w H).2.2 i ah (by omega);rw[aa3 Y ao]; exact NP (h x F) ll aG
theorem di.Ct{ar:Nat}{s:af}{xs:List Z}(k:di ar m T s xs)(H:E A m w):k_ T w s xs:=(k A [] w H).2.1
theorem add_add{a:Addr}(h:a.spot=none)(y n:Nat):(a.add y).add n=a.add (y+n):=by
 obtain⟨l,G,s⟩:=a;simp only at h;subst h;rw[lI,lI,lI,Nat.add_assoc]
theorem b6.Y7{ar G KS:Nat}{s:af}{xs:List Z}{i:Int}{a:Addr}{x:Z}{S:ey}(k:b6 m (c3 T s xs))(al:∀ x,(T.cells x).length=ar)(Y:cM s ar i a)(F:xs[i.toNat]?=some x)(aG:at_ (T.cells x) (G+KS) (c6.cells S).length=c6.cells S)
  (H:E A m w):L c6 ((a.add G).add KS) w S:=by
 rw[add_add (Sh Y (H.ro k))]; exact k.m2 al Y F aG H
end
section
variable {A w J:World} {m bT:List bC} {Z ey:Type} {T:bu Z} {c6:bu ey} {t:TypeId}
theorem aHp{aO c K z:List Value}{G:Nat}(h:G+z.length≤c.length):jv (aO++(c++K)) (aO.length+G) z=aO++(jv c G z++K):=by
 unfold jv;rw[List.take_length_add_append,Nat.add_assoc,List.drop_length_add_append,List.take_append_of_le_length (by omega),List.drop_append_of_le_length (by omega)];simp
theorem EQ{ar G:Nat}{s:af}{xs:List Z}{i:Int}{a:Addr}{x S:Z}{z:ey}{aa:World→Prop}(al:∀ x,(T.cells x).length=ar)(Y:cM s ar i a)(F:xs[i.toNat]?=some x)(aB:jv (T.cells x) G (c6.cells z)=T.cells S)(ai:G+(c6.cells z).length≤ar)
  (H:E A (row T t ar s xs::m) w) (aq:∀ J,E A (row T t ar s (xs.set i.toNat S)::m) J→aa J):bd c6 (a.add G) z w aa:=by
 obtain⟨c,U,ah,I,rfl⟩:=Y;rcases oG H with ⟨rfl,rfl,H⟩ | ⟨l,rest,O,aJ,bl,dq,H⟩
 ·cases U
 ·rw[O] at U; injection U with U; subst U
  have ax:i.toNat<xs.length:=by omega
  obtain⟨_,rfl⟩:=List.getElem?_eq_some_iff.1 F;have yo:((xs.take i.toNat).flatMap T.cells).length=i.toNat*ar:=by rw[nV al,List.length_take]; congr 1; omega
  have ag:xs.drop i.toNat=xs[i.toNat]::xs.drop (i.toNat+1):=List.drop_eq_getElem_cons ax;have rl:xs.flatMap T.cells++rest=(xs.take i.toNat).flatMap T.cells++(T.cells xs[i.toNat]++((xs.drop (i.toNat+1)).flatMap T.cells++rest)):=by
   have:xs.flatMap T.cells=(xs.take i.toNat).flatMap T.cells++(xs.drop i.toNat).flatMap T.cells:=by rw[← List.flatMap_append,List.take_append_drop]
   rw[this,ag,List.flatMap_cons]; simp only[List.append_assoc]
  have ar0:(xs.set i.toNat S).flatMap T.cells++rest=(xs.take i.toNat).flatMap T.cells++(T.cells S++((xs.drop (i.toNat+1)).flatMap T.cells++rest)):=by
   have:xs.set i.toNat S=xs.take i.toNat++S::xs.drop (i.toNat+1):=by rw[List.set_eq_take_append_cons_drop,if_pos ax]
   rw[this,List.flatMap_append,List.flatMap_cons]; simp only[List.append_assoc]
  rw[lI,lI];rw[rl] at H;have yd:=al xs[i.toNat];have k3:0+i.toNat*ar+G+(c6.cells z).length≤((xs.take i.toNat).flatMap T.cells++(T.cells xs[i.toNat]++((xs.drop (i.toNat+1)).flatMap T.cells++rest))).length:=by
   simp only[List.length_append,yo,yd]; omega
  refine⟨CI H k3,aq _ ?_⟩;have iu:=Aj (c6.cells z) (0+i.toNat*ar+G) 0 _ _ H (by simpa using k3);refine ut O (by simpa using aJ) bl dq ?_;rw[ar0,← aB];have j:=aHp (aO:=(xs.take i.toNat).flatMap T.cells) (c:=T.cells xs[i.toNat]) (K:=(xs.drop (i.toNat+1)).flatMap T.cells++rest) (z:=c6.cells z) (G:=G) (by omega);rw[yo] at j;rw[show 0+i.toNat*ar+G+0=i.toNat*ar+G from by omega,j] at iu;exact iu
end
theorem L4(n:Int):IntKind.u8.wrap n=n%256:=by simp[IntKind.wrap,IntKind.bits,IntKind.signed]
theorem lw(n:Int):IntKind.u64.wrap n=n%18446744073709551616:=by simp[IntKind.wrap,IntKind.bits,IntKind.signed]
theorem qL(n:Int):IntKind.i64.wrap n=(n+9223372036854775808)%18446744073709551616-9223372036854775808:=by
 rw[IntKind.wrap_i64]
theorem kR(n:Int)(ah:0≤n)(I:n<2^64):IntKind.u64.wrap n=n:=by rw[lw]; omega
theorem aIK(n:Int)(ah:0≤n)(I:n<2^8):IntKind.u8.wrap n=n:=by rw[L4]; omega
theorem aD1(k:IntKind)(D:Nat)(bR:D≤k.bits)(aq:∀ n:Int,0≤n→n<2^D→k.wrap n=n)(i:Nat)
  (S x:Int) (aar:0≤S) (aB:S<2^i) (aas:S<2^D) (aap:0≤x) (F:x%2^i=0) (aaq:x<2^D):bits .or k S x=S+x:=by
 have h:=bits_join k D bR aq i x S aap F aaq aar aB aas;obtain⟨a,rfl⟩:=Int.eq_ofNat_of_zero_le aap;obtain⟨l,rfl⟩:=Int.eq_ofNat_of_zero_le aar;have Y:a<2^D:=by exact_mod_cast aaq
 have ao:l<2^D:=by exact_mod_cast aas
 rw[(bits_nat k D bR aq a l Y ao).2] at h;rw[(bits_nat k D bR aq l a ao Y).2,Nat.or_comm,h];omega
theorem aj4{x:Int}(ah:0≤x)(I:x<256):bits .and .u8 x 127=x%128:=bits_mask .u8 8 (by decide) aIK 7 (by decide) x ah I
theorem aj3{x:Int}(ah:0≤x)(I:x<18446744073709551616):bits .and .u64 x 1=x%2:=bits_mask .u64 64 (by decide) kR 1 (by decide) x ah I
theorem aD0{x:Int}(ah:0≤x)(I:x<256):bits .or .u8 x 128=128+x%128:=by
 obtain⟨a,rfl⟩:=Int.eq_ofNat_of_zero_le ah;have Y:a<256:=by omega
 have key:∀ a:Fin 256,bits .or .u8 ((a.1:Nat):Int) 128=128+((a.1:Nat):Int)%128:=by decide +kernel
 exact key ⟨a,Y⟩
theorem KT(a:Nat)(h:a<18446744073709551616):(BitVec.ofInt 64 (a:Int)).toNat=a:=by
 rw[BitVec.ofInt_natCast,BitVec.toNat_ofNat]; exact Nat.mod_eq_of_lt (by omega)
theorem aI0{x:Int}(ah:0≤x)(I:x<18446744073709551616):bits .xor .u64 x 0=x:=by
 obtain⟨a,rfl⟩:=Int.eq_ofNat_of_zero_le ah;show IntKind.u64.wrap ((BitVec.ofInt 64 (a:Int) ^^^ BitVec.ofInt 64 0).toNat:Int)=_
 have j:BitVec.ofInt 64 0=0#64:=rfl;rw[j,BitVec.xor_zero,KT a (by omega),lw]; omega
theorem afN{x:Int}(ah:0≤x)(I:x<18446744073709551616):bits .xor .u64 x 18446744073709551615=18446744073709551615-x:=by
 obtain⟨a,rfl⟩:=Int.eq_ofNat_of_zero_le ah;show IntKind.u64.wrap ((BitVec.ofInt 64 (a:Int) ^^^ BitVec.ofInt 64 18446744073709551615).toNat:Int)=_
 have j:BitVec.ofInt 64 18446744073709551615=BitVec.allOnes 64:=by decide
 rw[j,BitVec.xor_allOnes,BitVec.toNat_not,KT a (by omega),lw]; omega
theorem aIZ{x:Int}(ah:0≤x)(I:x<9223372036854775808):bits .xor .i64 x 0=x:=by
 obtain⟨a,rfl⟩:=Int.eq_ofNat_of_zero_le ah;show IntKind.i64.wrap ((BitVec.ofInt 64 (a:Int) ^^^ BitVec.ofInt 64 0).toNat:Int)=_
 have j:BitVec.ofInt 64 0=0#64:=rfl;rw[j,BitVec.xor_zero,KT a (by omega),qL]; omega
theorem aI1{x:Int}(ah:0≤x)(I:x<9223372036854775808):bits .xor .i64 x (-1)=-x-1:=by
 obtain⟨a,rfl⟩:=Int.eq_ofNat_of_zero_le ah;show IntKind.i64.wrap ((BitVec.ofInt 64 (a:Int) ^^^ BitVec.ofInt 64 (-1)).toNat:Int)=_
 have j:BitVec.ofInt 64 (-1)=BitVec.allOnes 64:=by decide
 rw[j,BitVec.xor_allOnes,BitVec.toNat_not,KT a (by omega),qL]; omega
section
variable {A w J:World} {m bT:List bC} {Z:Type} {T:bu Z} {t j:TypeId}
theorem aj6{s:af}{r:List UInt8}{xs:List Int}{k:af→World→Prop}(i:Nat)(H:E A m w)(ax:front i m=row (B .u8) j 1 s xs::bT)(ao:xs.length+r.length≤140737488355328)
  (aq:∀ q J,E A (row (B .u8) j 1 q (xs++aT r)::bT) J→k q J):NY j s r w k:=
 NZ (fun _=>rfl) (ax▸H.front i) (by rw[gv]; omega) aq
theorem akt{s:af}{r:List UInt8}{k:List UInt8→Prop}(h:k_ (B .u8) w s (aT r))(aq:k r):ex (tq s w) k:=⟨r,h,aq⟩
theorem sq{l qq:Int}{k:Int→Prop}(h:0≤l)(aq:k qq):ex (iP l qq) k:=⟨qq,⟨h,rfl⟩,aq⟩
theorem hY{bx:Type}{body:bx→World→(bx→World→Prop)→Prop}{s:bx}{w:World}(aW:bx→World→Prop)(to:bx→Nat)(ah:aW s w)
  (h:∀ s w,aW s w→∀ aa:bx→World→Prop,(∀ fB J,aW fB J→to fB<to s→aa fB J)→body s w aa):e2 body s w:=
 vo aW to ah fun s w a7=>h s w a7 _ fun fB J I O=>⟨I,O⟩
end
end bf
end Go.Proofs.YthaobmpdjcoheaaGreat
