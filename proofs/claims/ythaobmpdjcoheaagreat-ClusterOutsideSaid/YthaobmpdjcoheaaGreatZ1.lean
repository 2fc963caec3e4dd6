/- Own texts of this claim, part 1: short, merged. -/
import Derived.Below
import Derived.ProofKit
import Derived.Deep.Slices
import Derived.Laws.AppendOwn
import Derived.Laws.BitsLemmas
import Derived.Test.YthaobmpdjcoheaaGreatZ0
set_option maxRecDepth 100000
set_option maxHeartbeats 40000000
set_option linter.defProp false
set_option linter.unusedVariables false
set_option linter.unusedSimpArgs false
namespace Go.Proofs.YthaobmpdjcoheaaGreat
namespace bj
abbrev ayY:=cf.mk cS
abbrev azg:=cf.mk cU
abbrev azp:=cf.mk oR
abbrev azt:=cf.mk HX
abbrev azK:=cf.mk Lk
abbrev ay5:=cf.mk qv
abbrev ay9:=cf.mk vD
abbrev azc:=cf.mk aDP
abbrev azh:=cf.mk y0
abbrev azi:=cf.mk acm
abbrev azl:=cf.mk RF
abbrev azm:=cf.mk y1
abbrev azn:=cf.mk aco
abbrev azo:=cf.mk sj
abbrev azq:=cf.mk xe
abbrev azr:=cf.mk aDU
abbrev azs:=cf.mk aDV
abbrev azu:=cf.mk acp
abbrev azv:=cf.mk y2
abbrev azw:=cf.mk acq
abbrev azx:=cf.mk EM
abbrev azy:=cf.mk EN
abbrev azz:=cf.mk HY
abbrev azA:=cf.mk acr
abbrev azB:=cf.mk sk
abbrev azC:=cf.mk acs
abbrev azD:=cf.mk acu
abbrev azE:=cf.mk acv
abbrev azF:=cf.mk aDW
abbrev azG:=cf.mk EO
abbrev azH:=cf.mk RG
abbrev azI:=cf.mk acw
abbrev azJ:=cf.mk RH
abbrev azL:=cf.mk EP
abbrev azM:=cf.mk HZ
abbrev azN:=cf.mk Ll
abbrev azO:=cf.mk EQ
abbrev azP:=cf.mk RI
abbrev azQ:=cf.mk acx
abbrev azR:=cf.mk Lm
abbrev azS:=cf.mk acy
abbrev ayA:=cf.mk acf
abbrev ayB:=cf.mk aDB
abbrev ayC:=cf.mk aDC
abbrev ayD:=cf.mk EK
abbrev ayE:=cf.mk Lj
abbrev ayF:=cf.mk acg
abbrev ayG:=cf.mk aDD
abbrev ayH:=cf.mk oi
abbrev ayI:=cf.mk sh
abbrev ayJ:=cf.mk aDE
abbrev ayK:=cf.mk aDF
abbrev ayL:=cf.mk aDG
abbrev ayM:=cf.mk aDH
abbrev ayN:=cf.mk aDI
abbrev ayO:=cf.mk yZ
abbrev ayP:=cf.mk aDJ
abbrev ayQ:=cf.mk aDK
abbrev ayR:=cf.mk ach
abbrev ayS:=cf.mk aDL
abbrev ayT:=cf.mk vB
abbrev ayU:=cf.mk vC
abbrev ayV:=cf.mk xd
abbrev ayW:=cf.mk si
abbrev ayX:=cf.mk ma
abbrev ayZ:=cf.mk EL
abbrev ay0:=cf.mk HW
abbrev ay1:=cf.mk RD
abbrev ay2:=cf.mk aDM
abbrev ay3:=cf.mk aci
abbrev ay4:=cf.mk aDN
abbrev ay6:=cf.mk aDO
abbrev ay7:=cf.mk acj
abbrev ay8:=cf.mk ack
abbrev aza:=cf.mk acl
abbrev azb:=cf.mk RE
abbrev azd:=cf.mk aDQ
abbrev aze:=cf.mk aDR
abbrev azf:=cf.mk aDS
abbrev azj:=cf.mk acn
abbrev azk:=cf.mk aDT
abbrev ayf:=eU.mk aa7
abbrev ayl:=eU.mk KF
abbrev ayo:=eU.mk abk
abbrev ays:=eU.mk abn
abbrev aym:=eU.mk KG
abbrev ayn:=eU.mk abj
abbrev ayp:=eU.mk QV
abbrev ayq:=eU.mk abl
abbrev ayr:=eU.mk abm
abbrev ayt:=eU.mk QW
abbrev ayu:=eU.mk HA
abbrev ayv:=eU.mk KH
abbrev ayw:=eU.mk KI
abbrev ayx:=eU.mk QX
abbrev ayy:=eU.mk QY
abbrev ayz:=eU.mk KJ
abbrev ax2:=eU.mk KD
abbrev ax3:=eU.mk aaX
abbrev ax4:=eU.mk aBh
abbrev ax5:=eU.mk QQ
abbrev ax6:=eU.mk Cc
abbrev ax7:=eU.mk wX
abbrev ax8:=eU.mk aaZ
abbrev ax9:=eU.mk aa0
abbrev aya:=eU.mk QR
abbrev ayb:=eU.mk QS
abbrev ayc:=eU.mk aa6
abbrev ayd:=eU.mk QT
abbrev aye:=eU.mk wY
abbrev ayg:=eU.mk QU
abbrev ayh:=eU.mk Hz
abbrev ayi:=eU.mk abg
abbrev ayj:=eU.mk abh
abbrev ayk:=eU.mk KE
abbrev avB:=bv Tryz.func7
abbrev avJ:=bv Tryz.func8
abbrev avU:=bv Tryz.func9
abbrev asI:=bv Tryz.func10
abbrev asP:=bv Tryz.func11
abbrev asZ:=bv Tryz.func12
abbrev as8:=bv Tryz.func13
abbrev ati:=bv Tryz.func14
abbrev att:=bv Tryz.func15
abbrev atE:=bv Tryz.func16
abbrev atM:=bv Tryz.func17
abbrev atW:=bv Tryz.func18
abbrev at6:=bv Tryz.func19
abbrev aud:=bv Tryz.func20
abbrev aue:=bv Tryz.func21
abbrev aum:=bv Tryz.func22
abbrev aur:=bv Tryz.func23
abbrev auA:=bv Tryz.func24
abbrev auI:=bv Tryz.func25
abbrev auR:=bv Tryz.func26
abbrev auV:=bv Tryz.func27
abbrev auW:=bv Tryz.func28
abbrev auX:=bv Tryz.func29
abbrev auY:=bv Tryz.func30
abbrev auZ:=bv Tryz.func31
abbrev au0:=bv Tryz.func32
abbrev au1:=bv Tryz.func33
abbrev au2:=bv Tryz.func34
abbrev au3:=bv Tryz.func35
abbrev au4:=bv Tryz.func36
abbrev au5:=bv Tryz.func37
abbrev au6:=bv Tryz.func38
abbrev au7:=bv Tryz.func39
abbrev au8:=bv Tryz.func40
abbrev au9:=bv Tryz.func41
abbrev ava:=bv Tryz.func42
abbrev avb:=bv Tryz.func43
abbrev avc:=bv Tryz.func44
abbrev avd:=bv Tryz.func45
abbrev ave:=bv Tryz.func46
abbrev avf:=bv Tryz.func47
abbrev avg:=bv Tryz.func48
abbrev avh:=bv Tryz.func49
abbrev avi:=bv Tryz.func50
abbrev avj:=bv Tryz.func51
abbrev avk:=bv Tryz.func52
abbrev avl:=bv Tryz.func53
abbrev avm:=bv Tryz.func54
abbrev avn:=bv Tryz.func55
abbrev avo:=bv Tryz.func56
abbrev avp:=bv Tryz.func57
abbrev avq:=bv Tryz.func58
abbrev avr:=bv Tryz.func59
abbrev avs:=bv Tryz.func60
abbrev avt:=bv Tryz.func61
abbrev avu:=bv Tryz.func62
abbrev avv:=bv Tryz.func63
abbrev avw:=bv Tryz.func64
abbrev avx:=bv Tryz.func65
abbrev avy:=bv Tryz.func66
abbrev avz:=bv Tryz.func67
abbrev avA:=bv Tryz.func69
abbrev avC:=bv Tryz.func71
abbrev avD:=bv Tryz.func73
abbrev avE:=bv Tryz.func74
abbrev avF:=bv Tryz.func76
abbrev avG:=bv Tryz.func77
abbrev avH:=bv Tryz.func78
abbrev avI:=bv Tryz.func79
abbrev avK:=bv Tryz.func80
abbrev avL:=bv Tryz.func81
abbrev avM:=bv Tryz.func82
abbrev avN:=bv Tryz.func83
abbrev avO:=bv Tryz.func84
abbrev avP:=bv Tryz.func85
abbrev avQ:=bv Tryz.func86
abbrev avR:=bv Tryz.func87
abbrev avS:=bv Tryz.func88
abbrev avT:=bv Tryz.func89
abbrev avV:=bv Tryz.func90
abbrev avW:=bv Tryz.func91
abbrev avX:=bv Tryz.func92
abbrev avY:=bv Tryz.func93
abbrev avZ:=bv Tryz.func94
abbrev av0:=bv Tryz.func95
abbrev av1:=bv Tryz.func96
abbrev av2:=bv Tryz.func97
abbrev av3:=bv Tryz.func98
abbrev av4:=bv Tryz.func99
abbrev asJ:=bv Tryz.func100
abbrev asK:=bv Tryz.func101
abbrev asL:=bv Tryz.func103
abbrev asM:=bv Tryz.func105
abbrev asN:=bv Tryz.func106
abbrev asO:=bv Tryz.func107
abbrev asQ:=bv Tryz.func111
abbrev asR:=bv Tryz.func112
abbrev asS:=bv Tryz.func113
abbrev asT:=bv Tryz.func114
abbrev asU:=bv Tryz.func115
abbrev asV:=bv Tryz.func116
abbrev asW:=bv Tryz.func117
abbrev asX:=bv Tryz.func118
abbrev asY:=bv Tryz.func119
abbrev as0:=bv Tryz.func121
abbrev as1:=bv Tryz.func123
abbrev as2:=bv Tryz.func124
abbrev as3:=bv Tryz.func125
abbrev as4:=bv Tryz.func126
abbrev as5:=bv Tryz.func127
abbrev as6:=bv Tryz.func128
abbrev as7:=bv Tryz.func129
abbrev as9:=bv Tryz.func130
abbrev ata:=bv Tryz.func131
abbrev atb:=bv Tryz.func132
abbrev atc:=bv Tryz.func133
abbrev atd:=bv Tryz.func134
abbrev ate:=bv Tryz.func135
abbrev atf:=bv Tryz.func136
abbrev atg:=bv Tryz.func138
abbrev ath:=bv Tryz.func139
abbrev atj:=bv Tryz.func140
abbrev atk:=bv Tryz.func141
abbrev atl:=bv Tryz.func142
abbrev atm:=bv Tryz.func143
abbrev atn:=bv Tryz.func144
abbrev ato:=bv Tryz.func145
abbrev atp:=bv Tryz.func146
abbrev atq:=bv Tryz.func147
abbrev atr:=bv Tryz.func148
abbrev ats:=bv Tryz.func149
abbrev atu:=bv Tryz.func150
abbrev atv:=bv Tryz.func151
abbrev atw:=bv Tryz.func152
abbrev atx:=bv Tryz.func153
abbrev aty:=bv Tryz.func154
abbrev atz:=bv Tryz.func155
abbrev atA:=bv Tryz.func156
abbrev atB:=bv Tryz.func157
abbrev atC:=bv Tryz.func158
abbrev atD:=bv Tryz.func159
abbrev atF:=bv Tryz.func160
abbrev atG:=bv Tryz.func161
abbrev atH:=bv Tryz.func162
abbrev atI:=bv Tryz.func166
abbrev atJ:=bv Tryz.func167
abbrev atK:=bv Tryz.func168
abbrev atL:=bv Tryz.func169
abbrev atN:=bv Tryz.func170
abbrev atO:=bv Tryz.func171
abbrev atP:=bv Tryz.func172
abbrev atQ:=bv Tryz.func173
abbrev atS:=bv Tryz.func174
abbrev atT:=bv Tryz.func175
abbrev atU:=bv Tryz.func177
abbrev atV:=bv Tryz.func179
abbrev atX:=bv Tryz.func180
abbrev atY:=bv Tryz.func181
abbrev atZ:=bv Tryz.func182
abbrev at0:=bv Tryz.func183
abbrev at1:=bv Tryz.func184
abbrev at2:=bv Tryz.func186
abbrev at3:=bv Tryz.func187
abbrev at4:=bv Tryz.func188
abbrev at5:=bv Tryz.func189
abbrev at7:=bv Tryz.func191
abbrev at8:=bv Tryz.func193
abbrev at9:=bv Tryz.func195
abbrev aua:=bv Tryz.func196
abbrev aub:=bv Tryz.func198
abbrev auc:=bv Tryz.func199
abbrev auf:=bv Tryz.func210
abbrev aug:=bv Tryz.func211
abbrev auh:=bv Tryz.func212
abbrev aui:=bv Tryz.func213
abbrev auj:=bv Tryz.func214
abbrev auk:=bv Tryz.func215
abbrev aul:=bv Tryz.func216
abbrev aun:=bv Tryz.func224
abbrev auo:=bv Tryz.func226
abbrev aup:=bv Tryz.func228
abbrev auq:=bv Tryz.func229
abbrev aus:=bv Tryz.func230
abbrev aut:=bv Tryz.func231
abbrev auu:=bv Tryz.func232
abbrev auv:=bv Tryz.func233
abbrev auw:=bv Tryz.func234
abbrev auy:=bv Tryz.func235
abbrev auz:=bv Tryz.func236
abbrev auB:=bv Tryz.func243
abbrev auC:=bv Tryz.func244
abbrev auD:=bv Tryz.func245
abbrev auE:=bv Tryz.func246
abbrev auF:=bv Tryz.func247
abbrev auG:=bv Tryz.func248
abbrev auH:=bv Tryz.func249
abbrev auJ:=bv Tryz.func250
abbrev auK:=bv Tryz.func251
abbrev auL:=bv Tryz.func252
abbrev auM:=bv Tryz.func253
abbrev auN:=bv Tryz.func254
abbrev auO:=bv Tryz.func256
abbrev auP:=bv Tryz.func258
abbrev auQ:=bv Tryz.func259
abbrev auS:=bv Tryz.func260
abbrev auT:=bv Tryz.func261
abbrev auU:=bv Tryz.func262
abbrev aAe:=bg.mk Tryz.underlying2
abbrev aAz:=bg.mk Tryz.underlying3
abbrev aAI:=bg.mk Tryz.underlying4
abbrev aAL:=bg.mk Tryz.underlying5
abbrev aA2:=bg.mk Tryz.underlying9
abbrev aAf:=bg.mk Tryz.underlying20
abbrev aAm:=bg.mk Tryz.underlying22
abbrev aAr:=bg.mk Tryz.underlying24
abbrev aAs:=bg.mk Tryz.underlying25
abbrev aAv:=bg.mk Tryz.underlying26
abbrev aAB:=bg.mk Tryz.underlying31
abbrev aAC:=bg.mk Tryz.underlying32
abbrev aAF:=bg.mk Tryz.underlying33
abbrev aAG:=bg.mk Tryz.underlying35
abbrev aAH:=bg.mk Tryz.underlying36
abbrev aAJ:=bg.mk Tryz.underlying46
abbrev aAK:=bg.mk Tryz.underlying47
abbrev aAM:=bg.mk Tryz.underlying50
abbrev aAN:=bg.mk Tryz.underlying53
abbrev aAO:=bg.mk Tryz.underlying56
abbrev aAP:=bg.mk Tryz.underlying60
abbrev aAQ:=bg.mk Tryz.underlying62
abbrev aAR:=bg.mk Tryz.underlying64
abbrev aAS:=bg.mk Tryz.underlying67
abbrev aAT:=bg.mk Tryz.underlying68
abbrev aAU:=bg.mk Tryz.underlying69
abbrev aAV:=bg.mk Tryz.underlying70
abbrev aAW:=bg.mk Tryz.underlying72
abbrev aAX:=bg.mk Tryz.underlying73
abbrev aAY:=bg.mk Tryz.underlying79
abbrev aAZ:=bg.mk Tryz.underlying83
abbrev aA0:=bg.mk Tryz.underlying85
abbrev aA1:=bg.mk Tryz.underlying87
abbrev aA3:=bg.mk Tryz.underlying92
abbrev aA4:=bg.mk Tryz.underlying93
abbrev aA5:=bg.mk Tryz.underlying97
abbrev aA6:=bg.mk Tryz.underlying98
abbrev aA7:=bg.mk Tryz.underlying99
abbrev azT:=bg.mk Tryz.underlying101
abbrev azU:=bg.mk Tryz.underlying104
abbrev azV:=bg.mk Tryz.underlying111
abbrev azW:=bg.mk Tryz.underlying114
abbrev azX:=bg.mk Tryz.underlying135
abbrev azY:=bg.mk Tryz.underlying137
abbrev azZ:=bg.mk Tryz.underlying142
abbrev az0:=bg.mk Tryz.underlying146
abbrev az1:=bg.mk Tryz.underlying150
abbrev az2:=bg.mk Tryz.underlying161
abbrev az3:=bg.mk Tryz.underlying173
abbrev az4:=bg.mk Tryz.underlying175
abbrev az5:=bg.mk Tryz.underlying178
abbrev az6:=bg.mk Tryz.underlying180
abbrev az7:=bg.mk Tryz.underlying182
abbrev az8:=bg.mk Tryz.underlying185
abbrev az9:=bg.mk Tryz.underlying189
abbrev aAa:=bg.mk Tryz.underlying190
abbrev aAb:=bg.mk Tryz.underlying194
abbrev aAc:=bg.mk Tryz.underlying195
abbrev aAd:=bg.mk Tryz.underlying197
abbrev aAg:=bg.mk Tryz.underlying210
abbrev aAh:=bg.mk Tryz.underlying211
abbrev aAi:=bg.mk Tryz.underlying212
abbrev aAj:=bg.mk Tryz.underlying214
abbrev aAk:=bg.mk Tryz.underlying216
abbrev aAl:=bg.mk Tryz.underlying218
abbrev aAn:=bg.mk Tryz.underlying223
abbrev aAo:=bg.mk Tryz.underlying232
abbrev aAp:=bg.mk Tryz.underlying236
abbrev aAq:=bg.mk Tryz.underlying238
abbrev aAt:=bg.mk Tryz.underlying257
abbrev aAu:=bg.mk Tryz.underlying259
abbrev aAw:=bg.mk Tryz.underlying270
abbrev aAx:=bg.mk Tryz.underlying278
abbrev aAy:=bg.mk Tryz.underlying292
abbrev aAA:=bg.mk Tryz.underlying308
abbrev aAD:=bg.mk Tryz.underlying326
abbrev aAE:=bg.mk Tryz.underlying328
abbrev axf:=cM 0 0 Tryz.underlying24 cU
abbrev axg:=cM 1 1 Tryz.underlying24 qv
abbrev axh:=cM 2 2 Tryz.underlying24 qv
abbrev axi:=cM 3 3 Tryz.underlying24 cS
abbrev axq:=cM 0 0 Tryz.underlying31 cU
abbrev axr:=cM 1 1 Tryz.underlying31 cU
abbrev axs:=cM 2 2 Tryz.underlying31 cU
abbrev axt:=cM 3 3 Tryz.underlying31 cS
abbrev axw:=cM 0 0 Tryz.underlying35 cU
abbrev axx:=cM 1 1 Tryz.underlying35 cU
abbrev axy:=cM 2 2 Tryz.underlying35 cU
abbrev axz:=cM 3 3 Tryz.underlying35 cS
abbrev axA:=cM 4 4 Tryz.underlying35 y0
abbrev axB:=cM 5 8 Tryz.underlying35 acm
abbrev axC:=cM 6 9 Tryz.underlying35 RF
abbrev axD:=cM 0 0 Tryz.underlying53 cU
abbrev axE:=cM 1 1 Tryz.underlying53 sj
abbrev axF:=cM 2 2 Tryz.underlying53 cS
abbrev axG:=cM 0 0 Tryz.underlying60 cU
abbrev axH:=cM 1 1 Tryz.underlying60 cU
abbrev axI:=cM 2 2 Tryz.underlying60 cS
abbrev axJ:=cM 3 3 Tryz.underlying60 oR
abbrev axK:=cM 0 0 Tryz.underlying62 cU
abbrev axL:=cM 1 1 Tryz.underlying62 EM
abbrev axM:=cM 2 5 Tryz.underlying62 oR
abbrev axN:=cM 3 6 Tryz.underlying62 cS
abbrev axO:=cM 1 1 Tryz.underlying64 cU
abbrev axP:=cM 2 2 Tryz.underlying64 cU
abbrev axQ:=cM 3 3 Tryz.underlying64 EN
abbrev axR:=cM 0 0 Tryz.underlying67 acr
abbrev axS:=cM 0 0 Tryz.underlying72 sk
abbrev axT:=cM 1 1 Tryz.underlying72 qv
abbrev axU:=cM 2 2 Tryz.underlying72 cS
abbrev axV:=cM 3 3 Tryz.underlying72 acs
abbrev axW:=cM 4 4 Tryz.underlying72 acu
abbrev axX:=cM 5 5 Tryz.underlying72 acv
abbrev axY:=cM 0 0 Tryz.underlying85 cS
abbrev axZ:=cM 1 1 Tryz.underlying85 EO
abbrev ax0:=cM 0 0 Tryz.underlying87 cU
abbrev ax1:=cM 1 1 Tryz.underlying87 cS
abbrev av5:=cM 0 0 Tryz.underlying101 EP
abbrev av6:=cM 1 1 Tryz.underlying101 cS
abbrev av7:=cM 2 2 Tryz.underlying101 HZ
abbrev av8:=cM 3 3 Tryz.underlying101 Ll
abbrev av9:=cM 4 4 Tryz.underlying101 EQ
abbrev awa:=cM 5 5 Tryz.underlying101 RI
abbrev awb:=cM 6 6 Tryz.underlying101 acx
abbrev awc:=cM 7 7 Tryz.underlying101 Lm
abbrev awd:=cM 8 8 Tryz.underlying101 acy
abbrev awe:=cM 0 0 Tryz.underlying104 sj
abbrev awf:=cM 1 1 Tryz.underlying104 cS
abbrev awg:=cM 0 0 Tryz.underlying114 vD
abbrev awh:=cM 1 4 Tryz.underlying114 cS
abbrev awi:=cM 2 5 Tryz.underlying114 EK
abbrev awj:=cM 3 6 Tryz.underlying114 Lj
abbrev awk:=cM 4 7 Tryz.underlying114 Lm
abbrev awl:=cM 5 8 Tryz.underlying114 acp
abbrev awm:=cM 0 0 Tryz.underlying135 EM
abbrev awn:=cM 1 4 Tryz.underlying135 cS
abbrev awo:=cM 2 5 Tryz.underlying135 cS
abbrev awp:=cM 0 0 Tryz.underlying137 cS
abbrev awq:=cM 1 1 Tryz.underlying137 cS
abbrev awr:=cM 0 0 Tryz.underlying142 cU
abbrev aws:=cM 1 1 Tryz.underlying142 cS
abbrev awt:=cM 2 2 Tryz.underlying142 cU
abbrev awu:=cM 3 3 Tryz.underlying142 cU
abbrev awv:=cM 4 4 Tryz.underlying142 cS
abbrev aww:=cM 5 5 Tryz.underlying142 oR
abbrev awx:=cM 0 0 Tryz.underlying150 RI
abbrev awy:=cM 1 1 Tryz.underlying150 aco
abbrev awz:=cM 0 0 Tryz.underlying161 cU
abbrev awA:=cM 1 1 Tryz.underlying161 EN
abbrev awB:=cM 0 0 Tryz.underlying173 cS
abbrev awC:=cM 1 1 Tryz.underlying173 cS
abbrev awD:=cM 2 2 Tryz.underlying173 cS
abbrev awE:=cM 3 3 Tryz.underlying173 oR
abbrev awF:=cM 0 0 Tryz.underlying175 yZ
abbrev awG:=cM 1 4 Tryz.underlying175 qv
abbrev awH:=cM 2 5 Tryz.underlying175 cS
abbrev awI:=cM 3 6 Tryz.underlying175 cS
abbrev awJ:=cM 0 0 Tryz.underlying178 cU
abbrev awK:=cM 1 1 Tryz.underlying178 cU
abbrev awL:=cM 2 2 Tryz.underlying178 acq
abbrev awM:=cM 3 3 Tryz.underlying178 Lm
abbrev awN:=cM 0 0 Tryz.underlying182 ach
abbrev awO:=cM 1 1 Tryz.underlying182 cU
abbrev awP:=cM 2 2 Tryz.underlying182 oR
abbrev awQ:=cM 3 3 Tryz.underlying182 cU
abbrev awR:=cM 4 4 Tryz.underlying182 RF
abbrev awS:=cM 0 0 Tryz.underlying197 xd
abbrev awT:=cM 1 1 Tryz.underlying197 si
abbrev awU:=cM 2 2 Tryz.underlying197 cS
abbrev awV:=cM 3 3 Tryz.underlying197 qv
abbrev awW:=cM 4 4 Tryz.underlying197 Lk
abbrev awX:=cM 0 0 Tryz.underlying210 oR
abbrev awY:=cM 1 1 Tryz.underlying210 oR
abbrev awZ:=cM 2 2 Tryz.underlying210 cS
abbrev aw0:=cM 0 0 Tryz.underlying214 y0
abbrev aw1:=cM 1 4 Tryz.underlying214 HW
abbrev aw2:=cM 2 10 Tryz.underlying214 RD
abbrev aw3:=cM 3 12 Tryz.underlying214 sj
abbrev aw4:=cM 4 13 Tryz.underlying214 cS
abbrev aw5:=cM 0 0 Tryz.underlying218 aci
abbrev aw6:=cM 1 1 Tryz.underlying218 cS
abbrev aw7:=cM 2 2 Tryz.underlying218 cS
abbrev aw8:=cM 0 0 Tryz.underlying223 cS
abbrev aw9:=cM 0 0 Tryz.underlying236 cU
abbrev axa:=cM 1 1 Tryz.underlying236 cU
abbrev axb:=cM 0 0 Tryz.underlying238 acj
abbrev axc:=cM 1 2 Tryz.underlying238 HZ
abbrev axd:=cM 2 3 Tryz.underlying238 cU
abbrev axe:=cM 3 4 Tryz.underlying238 oR
abbrev axj:=cM 0 0 Tryz.underlying257 vB
abbrev axk:=cM 1 1 Tryz.underlying257 cU
abbrev axl:=cM 0 0 Tryz.underlying259 xe
abbrev axm:=cM 0 0 Tryz.underlying278 vB
abbrev axn:=cM 1 1 Tryz.underlying278 cU
abbrev axo:=cM 0 0 Tryz.underlying292 cS
abbrev axp:=cM 1 1 Tryz.underlying292 cS
abbrev axu:=cM 0 0 Tryz.underlying328 acn
abbrev axv:=cM 1 1 Tryz.underlying328 cS
attribute [instance] ayY azg azp azt azK ay5 ay9 azc azh azi azl azm azn azo azq azr azs azu azv azw azx azy azz azA azB azC azD azE azF azG azH azI azJ azL azM azN azO azP azQ azR azS ayA ayB ayC ayD ayE ayF ayG ayH ayI ayJ ayK ayL ayM ayN ayO ayP ayQ ayR ayS ayT ayU ayV ayW ayX ayZ ay0 ay1 ay2 ay3 ay4 ay6 ay7 ay8 aza azb azd aze azf azj azk ayf ayl ayo ays aym ayn ayp ayq ayr ayt ayu ayv ayw ayx ayy ayz ax2 ax3 ax4 ax5 ax6 ax7 ax8 ax9 aya ayb ayc ayd aye ayg ayh ayi ayj ayk avB avJ avU asI asP asZ as8 ati att atE atM atW at6 aud aue aum aur auA auI auR auV auW auX auY auZ au0 au1 au2 au3 au4 au5 au6 au7 au8 au9 ava avb avc avd ave avf avg avh avi avj avk avl avm avn avo avp avq avr avs avt avu avv avw avx avy avz avA avC avD avE avF avG avH avI avK avL avM avN avO avP avQ avR avS avT avV avW avX avY avZ av0 av1 av2 av3 av4 asJ asK asL asM asN asO asQ asR asS asT asU asV asW asX asY as0 as1 as2 as3 as4 as5 as6 as7 as9 ata atb atc atd ate atf atg ath atj atk atl atm atn ato atp atq atr ats atu atv atw atx aty atz atA atB atC atD atF atG atH atI atJ atK atL atN atO atP atQ atS atT atU atV atX atY atZ at0 at1 at2 at3 at4 at5 at7 at8 at9 aua aub auc auf aug auh aui auj auk aul aun auo aup auq aus aut auu auv auw auy auz auB auC auD auE auF auG auH auJ auK auL auM auN auO auP auQ auS auT auU aAe aAz aAI aAL aA2 aAf aAm aAr aAs aAv aAB aAC aAF aAG aAH aAJ aAK aAM aAN aAO aAP aAQ aAR aAS aAT aAU aAV aAW aAX aAY aAZ aA0 aA1 aA3 aA4 aA5 aA6 aA7 azT azU azV azW azX azY azZ az0 az1 az2 az3 az4 az5 az6 az7 az8 az9 aAa aAb aAc aAd aAg aAh aAi aAj aAk aAl aAn aAo aAp aAq aAt aAu aAw aAx aAy aAA aAD aAE axf axg axh axi axq axr axs axt axw axx axy axz axA axB axC axD axE axF axG axH axI axJ axK axL axM axN axO axP axQ axR axS axT axU axV axW axX axY axZ ax0 ax1 av5 av6 av7 av8 av9 awa awb awc awd awe awf awg awh awi awj awk awl awm awn awo awp awq awr aws awt awu awv aww awx awy awz awA awB awC awD awE awF awG awH awI awJ awK awL awM awN awO awP awQ awR awS awT awU awV awW awX awY awZ aw0 aw1 aw2 aw3 aw4 aw5 aw6 aw7 aw8 aw9 axa axb axc axd axe axj axk axl axm axn axo axp axu axv
theorem aFX{p:Prop}(h:p:=by first | exact gn rfl rfl rfl | exact g1 rfl rfl rfl | exact jw rfl rfl rfl | exact nj rfl rfl | exact LA rfl rfl rfl | exact ss rfl rfl rfl | exact AE rfl rfl rfl | exact ni rfl rfl rfl | exact vM rfl rfl rfl | exact H8 rfl rfl rfl | exact p3 rfl bg.out rfl rfl | exact LF rfl bg.out rfl rfl | exact adS rfl rfl rfl | exact ad8 rfl rfl rfl | exact Sh rfl bg.out rfl rfl | exact LD rfl bg.out rfl rfl | exact adX rfl (by decide) rfl rfl | exact Ly rfl rfl rfl | exact LH rfl rfl rfl | exact Sr rfl rfl rfl | exact adg rfl rfl rfl | exact LG rfl rfl | exact aee rfl rfl rfl (by decide) | exact aef rfl rfl rfl (by decide) | exact adR rfl bg.out rfl rfl | exact ad7 rfl bg.out rfl rfl | exact adQ rfl bg.out rfl | exact Sl rfl bg.out rfl | exact aeb rfl rfl rfl | exact aea rfl rfl rfl | exact ad9 rfl rfl | exact CC rfl (GH _ _) rfl rfl | exact CD rfl (GH _ _) rfl rfl | exact CC rfl (GI _ _) rfl rfl | exact CD rfl (GI _ _) rfl rfl | exact CC rfl (JT _ _) rfl rfl | exact CD rfl (JT _ _) rfl rfl):p:=h
theorem aFN{p:Prop}(h:p:=by first | exact lo rfl rfl | exact lo rfl (Eq.trans rfl (congrArg Value.pointer (by assumption)))):p:=h
theorem aFO{p:Prop}(h:p:=by first | exact xg rfl rfl rfl | exact adU rfl rfl):p:=h
theorem aFP{p:Prop}(h:p:=by first | exact hD rfl rfl (oy.it (by assumption)) rfl | exact iB rfl rfl (oy.it (by assumption)) rfl | exact aed rfl rfl rfl rfl | exact aec rfl rfl rfl rfl | exact i_ rfl rfl rfl rfl | exact lH rfl rfl rfl rfl):p:=h
theorem aFW{p:Prop}(h:p:=by first | exact jZ rfl bg.out rfl | exact adN rfl bg.out rfl | exact ad3 rfl bg.out rfl | exact LC rfl rfl rfl | exact ad6 rfl rfl rfl):p:=h
theorem aFQ{p:Prop}(h:p:=by first | exact Se rfl rfl | exact adH rfl | exact adJ rfl rfl | exact R3 rfl | exact adh rfl rfl | exact EY rfl | exact H7 rfl | exact adp rfl | exact adr rfl rfl | exact adt rfl rfl | exact R8 rfl rfl | exact ady rfl rfl | exact adz rfl rfl | exact adA rfl | exact Sb rfl rfl | exact za rfl rfl | exact adB rfl | exact adD rfl | exact Sa rfl rfl rfl | exact Sf rfl rfl rfl | exact adL rfl rfl rfl | exact adM rfl rfl rfl | exact adi rfl rfl rfl | exact adk rfl rfl rfl | exact adl rfl rfl rfl | exact R7 rfl rfl rfl | exact adn rfl rfl rfl | exact ado rfl rfl rfl | exact ads rfl rfl rfl | exact adu rfl rfl rfl | exact adv rfl rfl rfl | exact adw rfl rfl rfl | exact adx rfl rfl rfl | exact R9 rfl rfl rfl | exact adC rfl rfl rfl | exact Sd rfl rfl rfl rfl | exact adE rfl rfl rfl rfl | exact R4 rfl rfl rfl rfl | exact adj rfl rfl rfl rfl | exact R5 rfl rfl rfl rfl | exact R_ rfl rfl rfl rfl | exact Sc rfl rfl rfl rfl rfl | exact adF rfl rfl rfl rfl rfl | exact adG rfl rfl rfl rfl rfl | exact adI rfl rfl rfl rfl rfl | exact adm rfl rfl rfl rfl rfl | exact adq rfl rfl rfl rfl rfl | exact adK rfl rfl rfl rfl rfl rfl | exact R6 rfl rfl rfl rfl rfl rfl rfl):p:=h
theorem aFS{p:Prop}(h:p:=by first | exact adY rfl bg.out rfl rfl bg.out rfl rfl rfl | exact adZ rfl bg.out rfl rfl bg.out rfl rfl eU.out rfl):p:=h
theorem aFU{p:Prop}(h:p:=by first | exact Sj rfl rfl):p:=h
theorem aFM{p:Prop}(h:p:=by first | exact cs rfl rfl | exact CB rfl rfl):p:=h
theorem aFR{p:Prop}(h:p:=by first | exact sr rfl bg.out bg.out rfl | exact q_cvtS rfl bg.out bg.out rfl):p:=h
theorem aFT{p:Prop}(h:p:=by first | exact Sk rfl rfl rfl | exact zb rfl bg.out rfl rfl):p:=h
theorem aFV{p:Prop}(h:p:=by first | exact adV rfl Zi rfl | exact Si rfl O8 rfl):p:=h
theorem LJ{p:Prop}(h:p:=by first | exact hE 9 (.refl 9) aFX | exact hE 1 (.refl 1) aFN | exact hE 10 (.refl 10) aFO | exact hE 11 (.refl 11) aFP | exact hE 7 (.refl 7) aFW | exact hE 12 (.refl 12) aFQ | exact hE 15 (.refl 15) aFS | exact hE 2 (.refl 2) aFU | exact hE 0 (.refl 0) aFM | exact hE 14 (.refl 14) aFR | exact hE 19 (.refl 19) aFT | exact hE 5 (.refl 5) aFV):p:=h
theorem aF6{p:Prop}(h:p:=by first | exact Sm rfl rfl rfl F | exact H9 rfl rfl rfl F | exact H_ rfl rfl rfl F | exact So rfl rfl rfl F | exact adO rfl rfl rfl F | exact adW rfl rfl rfl rfl F):p:=h
theorem aFY{p:Prop}(h:p:=by first | exact lo rfl (Eq.trans rfl (congrArg Value.pointer F))):p:=h
theorem aF5{p:Prop}(h:p:=by first | exact ad2 rfl bg.out rfl F):p:=h
theorem aF0{p:Prop}(h:p:=by first | exact kd rfl bg.out cf.out rfl rfl F | exact Lz rfl bg.out cf.out rfl rfl F | exact ad0 rfl bg.out rfl rfl F | exact ad1 rfl bg.out cf.out bg.out rfl (fun _=>rfl) rfl rfl F):p:=h
theorem aF4{p:Prop}(h:p:=by first | exact hM rfl cf.out rfl F):p:=h
theorem aFZ{p:Prop}(h:p:=by first | exact R2 rfl bg.out bg.out bg.out rfl F | exact Sg rfl bg.out bg.out rfl F):p:=h
theorem aF1{p:Prop}(h:p:=by first | exact LI rfl bg.out cf.out rfl rfl rfl F | exact aeh rfl bg.out cf.out rfl rfl F | exact Sp rfl bg.out cf.out rfl rfl F | exact aeg rfl bg.out cf.out rfl F | exact aei rfl bg.out cf.out rfl rfl rfl rfl F | exact Sq rfl bg.out cf.out rfl rfl rfl F | exact ael rfl bg.out rfl rfl rfl F | exact aek rfl bg.out rfl rfl F | exact aej rfl bg.out rfl rfl F):p:=h
theorem aF2{p:Prop}(h:p:=by first | exact ad5 rfl bg.out bg.out (by exact eU.out) rfl rfl F | exact ad4 rfl bg.out bg.out (by exact eU.out) rfl rfl F):p:=h
theorem aF3{p:Prop}(h:p:=by first | exact R1 rfl ⟨_,bg.out,by rfl⟩ eU.out rfl F | exact adP rfl rfl F):p:=h
theorem to{p:Prop}(h:p:=by first | exact hE 9 (.refl 9) aF6 | exact hE 1 (.refl 1) aFY | exact hE 7 (.refl 7) aF5 | exact hE 16 (.refl 16) aF0 | exact hE 3 (.refl 3) aF4 | exact hE 14 (.refl 14) aFZ | exact hE 17 (.refl 17) aF1 | exact hE 18 (.refl 18) aF2 | exact hE 19 (.refl 19) aF3):p:=h
theorem a8{p:Prop}(h:p:=by first | exact cc O | exact cc (akv O) | exact rfl):p:=h
theorem aFJ{p:Prop}(h:p:=by first | exact gn rfl a8 a8 | exact g1 rfl a8 a8 | exact jw rfl a8 a8 | exact nj rfl a8 | exact LA rfl a8 a8 | exact ss rfl a8 a8 | exact AE rfl a8 a8 | exact ni rfl a8 a8 | exact vM rfl a8 a8 | exact H8 rfl a8 a8 | exact p3 rfl bg.out a8 a8 | exact LF rfl bg.out a8 a8 | exact adS rfl a8 a8 | exact ad8 rfl a8 a8 | exact Sh rfl bg.out a8 a8 | exact LD rfl bg.out a8 a8 | exact adX rfl (by decide) a8 a8 | exact Ly rfl a8 a8 | exact LH rfl a8 a8 | exact Sr rfl a8 a8 | exact adg rfl a8 a8 | exact LG rfl a8 | exact aee rfl a8 a8 (by decide) | exact aef rfl a8 a8 (by decide) | exact adR rfl bg.out a8 a8 | exact ad7 rfl bg.out a8 a8 | exact adQ rfl bg.out a8 | exact Sl rfl bg.out a8 | exact aeb rfl rfl a8 | exact aea rfl rfl a8 | exact ad9 rfl a8 | exact CC rfl (GH _ _) a8 a8 | exact CD rfl (GH _ _) a8 a8 | exact CC rfl (GI _ _) a8 a8 | exact CD rfl (GI _ _) a8 a8 | exact CC rfl (JT _ _) a8 a8 | exact CD rfl (JT _ _) a8 a8):p:=h
theorem aFz{p:Prop}(h:p:=by first | exact lo rfl a8):p:=h
theorem aFA{p:Prop}(h:p:=by first | exact xg rfl a8 rfl | exact adU rfl a8):p:=h
theorem aFB{p:Prop}(h:p:=by first | exact aFx O rfl rfl rfl rfl | exact vL O rfl rfl rfl rfl | exact hD rfl a8 (oy.it (by assumption)) a8 | exact iB rfl a8 (oy.it (by assumption)) a8 | exact aed rfl a8 a8 a8 | exact aec rfl a8 a8 a8 | exact i_ rfl a8 a8 a8 | exact lH rfl a8 a8 a8):p:=h
theorem aFI{p:Prop}(h:p:=by first | exact jZ rfl bg.out a8 | exact adN rfl bg.out a8 | exact ad3 rfl bg.out a8 | exact LC rfl a8 a8 | exact ad6 rfl a8 a8):p:=h
theorem aFC{p:Prop}(h:p:=by first | exact Se rfl a8 | exact adH rfl | exact adJ rfl a8 | exact R3 rfl | exact adh rfl a8 | exact EY rfl | exact H7 rfl | exact adp rfl | exact adr rfl a8 | exact adt rfl a8 | exact R8 rfl a8 | exact ady rfl a8 | exact adz rfl a8 | exact adA rfl | exact Sb rfl a8 | exact za rfl a8 | exact adB rfl | exact adD rfl | exact Sa rfl a8 a8 | exact Sf rfl a8 a8 | exact adL rfl a8 a8 | exact adM rfl a8 a8 | exact adi rfl a8 a8 | exact adk rfl a8 a8 | exact adl rfl a8 a8 | exact R7 rfl a8 a8 | exact adn rfl a8 a8 | exact ado rfl a8 a8 | exact ads rfl a8 a8 | exact adu rfl a8 a8 | exact adv rfl a8 a8 | exact adw rfl a8 a8 | exact adx rfl a8 a8 | exact R9 rfl a8 a8 | exact adC rfl a8 a8 | exact Sd rfl a8 a8 a8 | exact adE rfl a8 a8 a8 | exact R4 rfl a8 a8 a8 | exact adj rfl a8 a8 a8 | exact R5 rfl a8 a8 a8 | exact R_ rfl a8 a8 a8 | exact Sc rfl a8 a8 a8 a8 | exact adF rfl a8 a8 a8 a8 | exact adG rfl a8 a8 a8 a8 | exact adI rfl a8 a8 a8 a8 | exact adm rfl a8 a8 a8 a8 | exact adq rfl a8 a8 a8 a8 | exact adK rfl a8 a8 a8 a8 a8 | exact R6 rfl a8 a8 a8 a8 a8 a8):p:=h
theorem aFE{p:Prop}(h:p:=by first | exact adY rfl bg.out rfl rfl bg.out rfl a8 rfl | exact adZ rfl bg.out rfl rfl bg.out rfl a8 eU.out rfl):p:=h
theorem aFG{p:Prop}(h:p:=by first | exact Sj rfl a8):p:=h
theorem aFy{p:Prop}(h:p:=by first | exact cs rfl a8 | exact CB rfl a8):p:=h
theorem aFD{p:Prop}(h:p:=by first | exact sr rfl bg.out bg.out a8 | exact q_cvtS rfl bg.out bg.out a8):p:=h
theorem aFF{p:Prop}(h:p:=by first | exact Sk rfl rfl rfl | exact zb rfl bg.out rfl a8):p:=h
theorem aFH{p:Prop}(h:p:=by first | exact adV rfl Zi a8 | exact Si rfl O8 a8):p:=h
theorem jK{p:Prop}(h:p:=by first | exact hE 9 (.refl 9) aFJ | exact hE 1 (.refl 1) aFz | exact hE 10 (.refl 10) aFA | exact hE 11 (.refl 11) aFB | exact hE 7 (.refl 7) aFI | exact hE 12 (.refl 12) aFC | exact hE 15 (.refl 15) aFE | exact hE 2 (.refl 2) aFG | exact hE 0 (.refl 0) aFy | exact hE 14 (.refl 14) aFD | exact hE 19 (.refl 19) aFF | exact hE 5 (.refl 5) aFH):p:=h
theorem aGf{p:Prop}(h:p:=by first | exact Sm rfl a8 a8 F | exact H9 rfl a8 a8 F | exact H_ rfl a8 a8 F | exact So rfl a8 a8 F | exact adO rfl a8 a8 F | exact adW rfl rfl a8 a8 F):p:=h
theorem aF7{p:Prop}(h:p:=by first | exact lo rfl (Eq.trans a8 (congrArg Value.pointer F))):p:=h
theorem aGe{p:Prop}(h:p:=by first | exact ad2 rfl bg.out a8 F):p:=h
theorem aF9{p:Prop}(h:p:=by first | exact kd rfl bg.out cf.out a8 a8 F | exact Lz rfl bg.out cf.out a8 a8 F | exact ad0 rfl bg.out a8 a8 F | exact ad1 rfl bg.out cf.out bg.out rfl (fun _=>rfl) a8 a8 F):p:=h
theorem aGd{p:Prop}(h:p:=by first | exact hM rfl cf.out a8 F):p:=h
theorem aF8{p:Prop}(h:p:=by first | exact R2 rfl bg.out bg.out bg.out a8 F | exact Sg rfl bg.out bg.out a8 F):p:=h
theorem aGa{p:Prop}(h:p:=by first | exact LI rfl bg.out cf.out a8 a8 a8 F | exact aeh rfl bg.out cf.out a8 a8 F | exact Sp rfl bg.out cf.out a8 a8 F | exact aeg rfl bg.out cf.out a8 F | exact aei rfl bg.out cf.out a8 a8 a8 a8 F | exact Sq rfl bg.out cf.out a8 a8 a8 F | exact ael rfl bg.out a8 a8 a8 F | exact aek rfl bg.out a8 a8 F | exact aej rfl bg.out a8 a8 F):p:=h
theorem aGb{p:Prop}(h:p:=by first | exact ad5 rfl bg.out bg.out (by exact eU.out) a8 a8 F | exact ad4 rfl bg.out bg.out (by exact eU.out) a8 a8 F):p:=h
theorem aGc{p:Prop}(h:p:=by first | exact R1 rfl ⟨_,bg.out,by rfl⟩ eU.out a8 F | exact adP rfl a8 F):p:=h
theorem k2{p:Prop}(h:p:=by first | exact hE 9 (.refl 9) aGf | exact hE 1 (.refl 1) aF7 | exact hE 7 (.refl 7) aGe | exact hE 16 (.refl 16) aF9 | exact hE 3 (.refl 3) aGd | exact hE 14 (.refl 14) aF8 | exact hE 17 (.refl 17) aGa | exact hE 18 (.refl 18) aGb | exact hE 19 (.refl 19) aGc):p:=h
theorem mV{p:Prop}(h:p:=by repeat first | with_reducible exact rfl | refine aC ?_ rfl):p:=h
theorem eY{p:Prop}(h:p:=by first | exact .free rfl | exact .av _ _ _ _ rfl rfl rfl (oy.it (by assumption))):p:=h
theorem bw{p:Prop} (h:p:=by
 repeat' first
  |(refine aA9 ?_; first
   |(refine QN 0 (.refl 0) ?_; first
    |refine aIg rfl ?_
    |first
    |(refine pW 3 (.refl 3) ?_; refine aod rfl cf.out h rfl (fun x F h=>?_))
    |(refine pW 1 (.refl 1) ?_; refine aoe rfl h rfl (fun x F h=>?_))
    |(refine pW 2 (.refl 2) ?_; refine aJP rfl rfl ?_)
    |(refine pW 5 (.refl 5) ?_; refine aoc rfl Jd.out h rfl (fun r w h=>?_))
    |(refine pW 4 (.refl 4) ?_; refine aof rfl cf.out h rfl rfl (fun w h=>?_))
    |(refine pW 13 (.refl 13) ?_; refine aob rfl cf.out eU.out h (fun x w h=>?_))
    |refine afi rfl rfl rfl LJ ?_
    |refine D2 h fun x F h=>afi rfl rfl rfl to ?_
    |first
    |(refine pW 7 (.refl 7) ?_; first |refine ey rfl eY (IK rfl rfl bg.out ⟨_,bg.out⟩ cf.out eU.out rfl rfl (Nat.lt_of_lt_of_le Nat.zero_lt_one (Nat.le_of_ble_eq_true rfl)) rfl rfl h (fun r w h=>?_)) |refine ey rfl eY (Tv rfl rfl bg.out bg.out cf.out eU.out rfl rfl h (fun r w h=>?_)) |refine ey rfl eY (Tw rfl rfl bg.out cf.out eU.out rfl h (fun w h=>?_)) |refine ey rfl eY (TA rfl rfl bg.out rfl h (fun w h=>?_)) |refine ey rfl eY (TB rfl rfl bg.out bg.out rfl rfl h (fun w h=>?_)) |refine ey rfl eY (Tz rfl rfl bg.out cf.out rfl rfl h (fun r w h=>?_)))
    |(refine pW 6 (.refl 6) ?_; first |refine ey rfl eY (Tx rfl rfl rfl rfl h (fun r w h=>?_)) |refine ey rfl eY (Ty rfl rfl rfl rfl h (fun r w h=>?_)))
    |(refine pW 14 (.refl 14) ?_; first |refine ey rfl eY (TG rfl rfl bg.out bg.out bg.out rfl h (fun r w h=>?_)) |refine ey rfl eY (TD rfl rfl bg.out bg.out rfl h (fun w h=>?_)))
    |(refine pW 20 (.refl 20) ?_; first |refine ey rfl eY (Fh rfl (.inl rfl) bg.out bg.out rfl rfl rfl h (fun w h=>?_)) |refine ey rfl eY (Fh rfl (.inr rfl) bg.out bg.out rfl rfl rfl h (fun w h=>?_)) |refine ey rfl eY (TC rfl rfl bg.out cf.out eU.out rfl rfl h (fun r w h=>?_)) |refine ey rfl eY (TF rfl rfl bg.out rfl h (fun r w h=>?_)) |refine ey rfl eY (TE rfl rfl rfl h (fun r w h=>?_)) |(obtain⟨a,w,Y,hw,h⟩:=EI h; refine vV rfl eY rfl (AF rfl bg.out cf.out eU.out rfl (by decide) (by decide) rfl Y hw) ?_) |(obtain⟨a,w,Y,hw,h⟩:=Gk h; refine vV rfl eY rfl (AF rfl bg.out cf.out eU.out rfl (by decide) (by decide) rfl Y hw) ?_) |(obtain⟨a,w,Y,hw,h⟩:=EI h; refine vV rfl eY rfl (Sn rfl bg.out cf.out eU.out Y hw) ?_) |(obtain⟨a,w,Y,hw,h⟩:=Lg h; refine vV rfl eY rfl (LB rfl Y hw) ?_) |(obtain⟨a,w,Y,hw,h⟩:=oQ h; refine vV rfl eY rfl (sq rfl cf.out rfl Y hw) ?_)))
   |refine aIf rfl ?_
   |refine aIi rfl rfl rfl rfl (by assumption) ?_
   |refine aIh rfl rfl rfl rfl ?_
   |refine afh rfl rfl rfl rfl (by assumption) rfl LJ ?_
   |refine D2 h fun x F h=>afh rfl rfl rfl rfl (by assumption) rfl to ?_
   |(have _:=@rv; first |(refine rv rfl ?_ (fun s g w h=>?_); refine p6 h (fun Y h=>?_) (fun Y h=>?_)) |(refine Q1 rfl ?_ (fun s g w h=>?_); refine p6 h (fun Y h=>?_) (fun Y h=>?_)) |(refine aBR rfl ?_ (fun s g w h=>?_); refine p6 h (fun Y h=>?_) (fun Y h=>?_)) |(refine aBS rfl ?_ (fun s g w h=>?_); refine p6 h (fun Y h=>?_) (fun Y h=>?_)) |(refine aBT rfl ?_ (fun s g w h=>?_); refine p6 h (fun Y h=>?_) (fun Y h=>?_)) |(refine aBU rfl ?_ (fun s g w h=>?_); refine p6 h (fun Y h=>?_) (fun Y h=>?_)) |(refine aBV rfl ?_ (fun s g w h=>?_); refine p6 h (fun Y h=>?_) (fun Y h=>?_)) |(refine aBW rfl ?_ (fun s g w h=>?_); refine p6 h (fun Y h=>?_) (fun Y h=>?_)))
   |refine aGn rfl rfl rfl rfl h (fun Y h=>?_) (fun Y h=>?_)
   |(refine QN 1 (.refl 1) ?_; first
    |refine AN rfl (x_ rfl rfl rfl) rfl (fun O=>jK) ?_
    |refine D2 h fun x F h=>AN rfl (x_ rfl rfl rfl) rfl (fun O=>have F:=F O; k2) ?_
    |refine AN rfl (ya rfl rfl rfl) rfl (fun O=>jK) ?_
    |refine D2 h fun x F h=>AN rfl (ya rfl rfl rfl) rfl (fun O=>have F:=F O; k2) ?_)
   |(refine QN 2 (.refl 2) ?_; first
    |refine AN rfl (x9 rfl rfl rfl) rfl (fun O=>jK) ?_
    |refine D2 h fun x F h=>AN rfl (x9 rfl rfl rfl) rfl (fun O=>have F:=F O; k2) ?_
    |refine AN rfl (x8 rfl rfl rfl) rfl (fun O=>jK) ?_
    |refine D2 h fun x F h=>AN rfl (x8 rfl rfl rfl) rfl (fun O=>have F:=F O; k2) ?_)
   |first
    |(refine pW 5 (.refl 5) ?_; refine ey rfl eY (gx rfl (fD rfl Jd.out rfl) h (fun r w h=>?_)))
    |(refine pW 4 (.refl 4) ?_; (obtain⟨w,hw,aa,h⟩:=sD h; refine aeD (d:=none) rfl eY rfl (st rfl cf.out rfl rfl aa hw) ?_))
    |(refine pW 13 (.refl 13) ?_; (obtain⟨a,w,Y,hw,h⟩:=oQ h; refine vV rfl eY rfl (H6 rfl cf.out (by exact eU.out) Y hw) ?_))
    |(refine pW 7 (.refl 7) ?_; first |refine ey rfl eY (IK rfl rfl bg.out ⟨_,bg.out⟩ cf.out eU.out rfl rfl (Nat.lt_of_lt_of_le Nat.zero_lt_one (Nat.le_of_ble_eq_true rfl)) rfl rfl h (fun r w h=>?_)) |refine ey rfl eY (Tv rfl rfl bg.out bg.out cf.out eU.out rfl rfl h (fun r w h=>?_)) |refine ey rfl eY (Tw rfl rfl bg.out cf.out eU.out rfl h (fun w h=>?_)) |refine ey rfl eY (TA rfl rfl bg.out rfl h (fun w h=>?_)) |refine ey rfl eY (TB rfl rfl bg.out bg.out rfl rfl h (fun w h=>?_)) |refine ey rfl eY (Tz rfl rfl bg.out cf.out rfl rfl h (fun r w h=>?_)))
    |(refine pW 6 (.refl 6) ?_; first |refine ey rfl eY (Tx rfl rfl rfl rfl h (fun r w h=>?_)) |refine ey rfl eY (Ty rfl rfl rfl rfl h (fun r w h=>?_)))
    |(refine pW 14 (.refl 14) ?_; first |refine ey rfl eY (TG rfl rfl bg.out bg.out bg.out rfl h (fun r w h=>?_)) |refine ey rfl eY (TD rfl rfl bg.out bg.out rfl h (fun w h=>?_)))
    |(refine pW 20 (.refl 20) ?_; first |refine ey rfl eY (Fh rfl (.inl rfl) bg.out bg.out rfl rfl rfl h (fun w h=>?_)) |refine ey rfl eY (Fh rfl (.inr rfl) bg.out bg.out rfl rfl rfl h (fun w h=>?_)) |refine ey rfl eY (TC rfl rfl bg.out cf.out eU.out rfl rfl h (fun r w h=>?_)) |refine ey rfl eY (TF rfl rfl bg.out rfl h (fun r w h=>?_)) |refine ey rfl eY (TE rfl rfl rfl h (fun r w h=>?_)) |(obtain⟨a,w,Y,hw,h⟩:=EI h; refine vV rfl eY rfl (AF rfl bg.out cf.out eU.out rfl (by decide) (by decide) rfl Y hw) ?_) |(obtain⟨a,w,Y,hw,h⟩:=Gk h; refine vV rfl eY rfl (AF rfl bg.out cf.out eU.out rfl (by decide) (by decide) rfl Y hw) ?_) |(obtain⟨a,w,Y,hw,h⟩:=EI h; refine vV rfl eY rfl (Sn rfl bg.out cf.out eU.out Y hw) ?_) |(obtain⟨a,w,Y,hw,h⟩:=Lg h; refine vV rfl eY rfl (LB rfl Y hw) ?_) |(obtain⟨a,w,Y,hw,h⟩:=oQ h; refine vV rfl eY rfl (sq rfl cf.out rfl Y hw) ?_))
   |(have _:=@rv; first |(refine rv rfl ?_ (fun s g w h=>?_); refine p6 h (fun Y h=>?_) (fun Y h=>?_)) |(refine Q1 rfl ?_ (fun s g w h=>?_); refine p6 h (fun Y h=>?_) (fun Y h=>?_)) |(refine aBR rfl ?_ (fun s g w h=>?_); refine p6 h (fun Y h=>?_) (fun Y h=>?_)) |(refine aBS rfl ?_ (fun s g w h=>?_); refine p6 h (fun Y h=>?_) (fun Y h=>?_)) |(refine aBT rfl ?_ (fun s g w h=>?_); refine p6 h (fun Y h=>?_) (fun Y h=>?_)) |(refine aBU rfl ?_ (fun s g w h=>?_); refine p6 h (fun Y h=>?_) (fun Y h=>?_)) |(refine aBV rfl ?_ (fun s g w h=>?_); refine p6 h (fun Y h=>?_) (fun Y h=>?_)) |(refine aBW rfl ?_ (fun s g w h=>?_); refine p6 h (fun Y h=>?_) (fun Y h=>?_)))
   |refine p6 h (fun Y h=>?_) (fun Y h=>?_))
  |(refine asF ?_; first
   |refine alf rfl rfl ?_
   |(have _:=@gC; first |refine gC rfl rfl h mixed rfl (by kernel_rfl) (by intro c a d v w h; cases d<;>exact h) (fun w h ai=>?_) |refine r0 rfl rfl h mixed rfl (by kernel_rfl) (by intro c a d v w h; cases d<;>exact h) (fun w h ai=>?_) |refine DR rfl rfl h mixed rfl (by kernel_rfl) (by intro c a d v w h; cases d<;>exact h) (fun w h ai=>?_) |refine amz rfl rfl h mixed rfl (by kernel_rfl) (by intro c a d v w h; cases d<;>exact h) (fun w h ai=>?_) |refine aKg rfl rfl h mixed rfl (by kernel_rfl) (by intro c a d v w h; cases d<;>exact h) (fun w h ai=>?_) |refine aKh rfl rfl h mixed rfl (by kernel_rfl) (by intro c a d v w h; cases d<;>exact h) (fun w h ai=>?_) |refine aKi rfl rfl h mixed rfl (by kernel_rfl) (by intro c a d v w h; cases d<;>exact h) (fun w h ai=>?_) |refine aKj rfl rfl h mixed rfl (by kernel_rfl) (by intro c a d v w h; cases d<;>exact h) (fun w h ai=>?_) |refine aKk rfl rfl h mixed rfl (by kernel_rfl) (by intro c a d v w h; cases d<;>exact h) (fun w h ai=>?_) |refine aJ5 rfl rfl h mixed rfl (by kernel_rfl) (by intro c a d v w h; cases d<;>exact h) (fun w h ai=>?_) |refine aJ6 rfl rfl h mixed rfl (by kernel_rfl) (by intro c a d v w h; cases d<;>exact h) (fun w h ai=>?_) |refine aJ7 rfl rfl h mixed rfl (by kernel_rfl) (by intro c a d v w h; cases d<;>exact h) (fun w h ai=>?_) |refine aJ8 rfl rfl h mixed rfl (by kernel_rfl) (by intro c a d v w h; cases d<;>exact h) (fun w h ai=>?_) |refine aJ9 rfl rfl h mixed rfl (by kernel_rfl) (by intro c a d v w h; cases d<;>exact h) (fun w h ai=>?_) |refine aKa rfl rfl h mixed rfl (by kernel_rfl) (by intro c a d v w h; cases d<;>exact h) (fun w h ai=>?_) |refine aKb rfl rfl h mixed rfl (by kernel_rfl) (by intro c a d v w h; cases d<;>exact h) (fun w h ai=>?_) |refine aKc rfl rfl h mixed rfl (by kernel_rfl) (by intro c a d v w h; cases d<;>exact h) (fun w h ai=>?_) |refine aKd rfl rfl h mixed rfl (by kernel_rfl) (by intro c a d v w h; cases d<;>exact h) (fun w h ai=>?_) |refine aKe rfl rfl h mixed rfl (by kernel_rfl) (by intro c a d v w h; cases d<;>exact h) (fun w h ai=>?_) |refine aKf rfl rfl h mixed rfl (by kernel_rfl) (by intro c a d v w h; cases d<;>exact h) (fun w h ai=>?_))
   |refine ala rfl h rfl (fun ao h=>?_) (fun ao h=>?_)
   |(have _:=@jt; first |refine jt rfl rfl ?_ (fun s g w h=>?_) |refine KK rfl rfl ?_ (fun s g w h=>?_) |refine aBQ rfl rfl ?_ (fun s g w h=>?_) |refine aKV rfl rfl ?_ (fun s g w h=>?_) |refine aKW rfl rfl ?_ (fun s g w h=>?_) |refine aKX rfl rfl ?_ (fun s g w h=>?_) |refine aKY rfl rfl ?_ (fun s g w h=>?_) |refine aKZ rfl rfl ?_ (fun s g w h=>?_) |refine aK0 rfl rfl ?_ (fun s g w h=>?_) |refine aKG rfl rfl ?_ (fun s g w h=>?_) |refine aKH rfl rfl ?_ (fun s g w h=>?_) |refine aKI rfl rfl ?_ (fun s g w h=>?_) |refine aKJ rfl rfl ?_ (fun s g w h=>?_) |refine aKK rfl rfl ?_ (fun s g w h=>?_) |refine aKL rfl rfl ?_ (fun s g w h=>?_) |refine aKM rfl rfl ?_ (fun s g w h=>?_) |refine aKN rfl rfl ?_ (fun s g w h=>?_) |refine aKO rfl rfl ?_ (fun s g w h=>?_) |refine aKP rfl rfl ?_ (fun s g w h=>?_) |refine aKQ rfl rfl ?_ (fun s g w h=>?_) |refine aKR rfl rfl ?_ (fun s g w h=>?_) |refine aKS rfl rfl ?_ (fun s g w h=>?_) |refine aKT rfl rfl ?_ (fun s g w h=>?_) |refine aKU rfl rfl ?_ (fun s g w h=>?_))
   |refine wF rfl ?_
   |(refine Gt rfl ?_; first |exact iN h rfl rfl |exact v9 h rfl rfl |exact IR h rfl rfl |exact aGW h rfl rfl |exact aGV h rfl)
   |refine ak8 rfl ?_
   |refine ak9 rfl ?_
   |refine ald rfl rfl ?_
   |refine alg rfl rfl ?_
   |refine alb rfl ?_
   |refine alc rfl ?_
   |refine ale rfl ?_
   |(have _:=@ju; first |refine ju rfl rfl h mV (fun s g w ab h=>?_) |refine HJ rfl rfl h mV (fun s g w ab h=>?_) |refine abU rfl rfl h mV (fun s g w ab h=>?_) |refine aCK rfl rfl h mV (fun s g w ab h=>?_) |refine aK9 rfl rfl h mV (fun s g w ab h=>?_) |refine aLa rfl rfl h mV (fun s g w ab h=>?_) |refine aLb rfl rfl h mV (fun s g w ab h=>?_) |refine aLc rfl rfl h mV (fun s g w ab h=>?_) |refine aLd rfl rfl h mV (fun s g w ab h=>?_) |refine aK2 rfl rfl h mV (fun s g w ab h=>?_) |refine aK3 rfl rfl h mV (fun s g w ab h=>?_) |refine aK4 rfl rfl h mV (fun s g w ab h=>?_) |refine aK5 rfl rfl h mV (fun s g w ab h=>?_) |refine aK6 rfl rfl h mV (fun s g w ab h=>?_) |refine aK7 rfl rfl h mV (fun s g w ab h=>?_) |refine aK8 rfl rfl h mV (fun s g w ab h=>?_))
   |(refine Gt rfl ?_; refine D1 h fun x F h=>?_; exact om rfl (.cons (.cell cf.out rfl F) .nil) ⟨_,rfl,h⟩)
   |(refine Gt rfl ?_; refine D1 h fun x F h=>D1 h fun S aB h=>?_; exact om rfl (.cons (.cell cf.out rfl F) (.cons (.cell cf.out rfl aB) .nil)) ⟨(_,_),rfl,h⟩)
   |(refine Gt rfl ?_; refine D1 h fun x F h=>?_; exact om rfl (.cons (.cell cf.out rfl F) (.cons (.tmp rfl) .nil)) ⟨(_,_),rfl,h⟩)
   |(refine Gt rfl ?_; refine D1 h fun x F h=>?_; exact om rfl (.cons (.tmp rfl) (.cons (.cell cf.out rfl F) .nil)) ⟨(_,_),rfl,h⟩))
  |(refine asG ?_; first
   |(refine QZ 0 rfl (.refl 0) ?_; first
    |(refine aBN 3 (.refl 3) ?_; refine aJD rfl rfl h ai rfl (by kernel_rfl) (by kernel_rfl) (fun x F h=>?_))
    |refine ji h fun x F h=>age rfl rfl rfl rfl ai (fun _=>to) ?_ (by kernel_rfl) (by kernel_rfl)
    |refine age rfl rfl rfl rfl ai (fun _=>LJ) ?_ (by kernel_rfl) (by kernel_rfl)
    |refine ji h fun x F h=>Mz (W:=fun w=>iD _ _ _ _ w _) F rfl rfl rfl rfl ai (fun _ F=>to) ?_ (by kernel_rfl) (by kernel_rfl)
    |refine ji h fun x F h=>Mz (W:=fun w=>rR _ w _) F rfl rfl rfl rfl ai (fun _ F=>to) ?_ (by kernel_rfl) (by kernel_rfl)
    |refine ji h fun x F h=>Mz (W:=fun w=>kA _ _ _ w _) F rfl rfl rfl rfl ai (fun _ F=>to) ?_ (by kernel_rfl) (by kernel_rfl)
    |refine ji h fun x F h=>Mz (W:=fun w=>tA _ w _) F rfl rfl rfl rfl ai (fun _ F=>to) ?_ (by kernel_rfl) (by kernel_rfl))
   |refine aJA rfl ?_ (by kernel_rfl)
   |refine aJG rfl rfl rfl rfl rfl (by assumption) ai ?_ (by kernel_rfl) (by kernel_rfl)
   |refine aJF rfl rfl rfl rfl rfl ai ?_ (by kernel_rfl) (by kernel_rfl)
   |refine agf rfl rfl rfl rfl rfl (by assumption) rfl ai (fun _=>LJ) ?_ (by kernel_rfl) (by kernel_rfl)
   |refine ji h fun x F h=>agf rfl rfl rfl rfl rfl (by assumption) rfl ai (fun _=>to) ?_ (by kernel_rfl) (by kernel_rfl)
    |refine ji h fun x F h=>IN (W:=fun w=>L _ _ w _) F rfl rfl rfl rfl rfl (by assumption) rfl ai (fun _ F=>to) ?_ (by kernel_rfl) (by kernel_rfl)
    |refine ji h fun x F h=>IN (W:=fun w=>iD _ _ _ _ w _) F rfl rfl rfl rfl rfl (by assumption) rfl ai (fun _ F=>to) ?_ (by kernel_rfl) (by kernel_rfl)
    |refine ji h fun x F h=>IN (W:=fun w=>rR _ w _) F rfl rfl rfl rfl rfl (by assumption) rfl ai (fun _ F=>to) ?_ (by kernel_rfl) (by kernel_rfl)
    |refine ji h fun x F h=>IN (W:=fun w=>kA _ _ _ w _) F rfl rfl rfl rfl rfl (by assumption) rfl ai (fun _ F=>to) ?_ (by kernel_rfl) (by kernel_rfl)
    |refine ji h fun x F h=>IN (W:=fun w=>tA _ w _) F rfl rfl rfl rfl rfl (by assumption) rfl ai (fun _ F=>to) ?_ (by kernel_rfl) (by kernel_rfl)
   |refine aJC rfl rfl rfl rfl rfl h (fun Y h=>?_) (fun Y h=>?_)
   |(refine QZ 1 rfl (.refl 1) ?_; first
    |refine A0 rfl rfl (x_ rfl rfl rfl) rfl ai (fun O _=>jK) ?_ (by kernel_rfl) (by kernel_rfl)
    |refine ji h fun x F h=>A0 rfl rfl (x_ rfl rfl rfl) rfl ai (fun O _=>have F:=F O; k2) ?_ (by kernel_rfl) (by kernel_rfl)
    |refine ji h fun x F h=>ov (W:=fun w=>L _ _ w _) F rfl rfl (x_ rfl rfl rfl) rfl ai (fun O _ F=>k2) ?_ (by kernel_rfl) (by kernel_rfl)
    |refine ji h fun x F h=>ov (W:=fun w=>iD _ _ _ _ w _) F rfl rfl (x_ rfl rfl rfl) rfl ai (fun O _ F=>k2) ?_ (by kernel_rfl) (by kernel_rfl)
    |refine ji h fun x F h=>ov (W:=fun w=>rR _ w _) F rfl rfl (x_ rfl rfl rfl) rfl ai (fun O _ F=>k2) ?_ (by kernel_rfl) (by kernel_rfl)
    |refine ji h fun x F h=>ov (W:=fun w=>kA _ _ _ w _) F rfl rfl (x_ rfl rfl rfl) rfl ai (fun O _ F=>k2) ?_ (by kernel_rfl) (by kernel_rfl)
    |refine ji h fun x F h=>ov (W:=fun w=>tA _ w _) F rfl rfl (x_ rfl rfl rfl) rfl ai (fun O _ F=>k2) ?_ (by kernel_rfl) (by kernel_rfl)
    |refine A0 rfl rfl (ya rfl rfl rfl) rfl ai (fun O _=>jK) ?_ (by kernel_rfl) (by kernel_rfl)
    |refine ji h fun x F h=>A0 rfl rfl (ya rfl rfl rfl) rfl ai (fun O _=>have F:=F O; k2) ?_ (by kernel_rfl) (by kernel_rfl)
    |refine ji h fun x F h=>ov (W:=fun w=>L _ _ w _) F rfl rfl (ya rfl rfl rfl) rfl ai (fun O _ F=>k2) ?_ (by kernel_rfl) (by kernel_rfl)
    |refine ji h fun x F h=>ov (W:=fun w=>iD _ _ _ _ w _) F rfl rfl (ya rfl rfl rfl) rfl ai (fun O _ F=>k2) ?_ (by kernel_rfl) (by kernel_rfl)
    |refine ji h fun x F h=>ov (W:=fun w=>rR _ w _) F rfl rfl (ya rfl rfl rfl) rfl ai (fun O _ F=>k2) ?_ (by kernel_rfl) (by kernel_rfl)
    |refine ji h fun x F h=>ov (W:=fun w=>kA _ _ _ w _) F rfl rfl (ya rfl rfl rfl) rfl ai (fun O _ F=>k2) ?_ (by kernel_rfl) (by kernel_rfl)
    |refine ji h fun x F h=>ov (W:=fun w=>tA _ w _) F rfl rfl (ya rfl rfl rfl) rfl ai (fun O _ F=>k2) ?_ (by kernel_rfl) (by kernel_rfl))
   |(refine QZ 2 rfl (.refl 2) ?_; first
    |refine A0 rfl rfl (x9 rfl rfl rfl) rfl ai (fun O _=>jK) ?_ (by kernel_rfl) (by kernel_rfl)
    |refine ji h fun x F h=>A0 rfl rfl (x9 rfl rfl rfl) rfl ai (fun O _=>have F:=F O; k2) ?_ (by kernel_rfl) (by kernel_rfl)
    |refine ji h fun x F h=>ov (W:=fun w=>L _ _ w _) F rfl rfl (x9 rfl rfl rfl) rfl ai (fun O _ F=>k2) ?_ (by kernel_rfl) (by kernel_rfl)
    |refine ji h fun x F h=>ov (W:=fun w=>iD _ _ _ _ w _) F rfl rfl (x9 rfl rfl rfl) rfl ai (fun O _ F=>k2) ?_ (by kernel_rfl) (by kernel_rfl)
    |refine ji h fun x F h=>ov (W:=fun w=>rR _ w _) F rfl rfl (x9 rfl rfl rfl) rfl ai (fun O _ F=>k2) ?_ (by kernel_rfl) (by kernel_rfl)
    |refine ji h fun x F h=>ov (W:=fun w=>kA _ _ _ w _) F rfl rfl (x9 rfl rfl rfl) rfl ai (fun O _ F=>k2) ?_ (by kernel_rfl) (by kernel_rfl)
    |refine ji h fun x F h=>ov (W:=fun w=>tA _ w _) F rfl rfl (x9 rfl rfl rfl) rfl ai (fun O _ F=>k2) ?_ (by kernel_rfl) (by kernel_rfl)
    |refine A0 rfl rfl (x8 rfl rfl rfl) rfl ai (fun O _=>jK) ?_ (by kernel_rfl) (by kernel_rfl)
    |refine ji h fun x F h=>A0 rfl rfl (x8 rfl rfl rfl) rfl ai (fun O _=>have F:=F O; k2) ?_ (by kernel_rfl) (by kernel_rfl)
    |refine ji h fun x F h=>ov (W:=fun w=>L _ _ w _) F rfl rfl (x8 rfl rfl rfl) rfl ai (fun O _ F=>k2) ?_ (by kernel_rfl) (by kernel_rfl)
    |refine ji h fun x F h=>ov (W:=fun w=>iD _ _ _ _ w _) F rfl rfl (x8 rfl rfl rfl) rfl ai (fun O _ F=>k2) ?_ (by kernel_rfl) (by kernel_rfl)
    |refine ji h fun x F h=>ov (W:=fun w=>rR _ w _) F rfl rfl (x8 rfl rfl rfl) rfl ai (fun O _ F=>k2) ?_ (by kernel_rfl) (by kernel_rfl)
    |refine ji h fun x F h=>ov (W:=fun w=>kA _ _ _ w _) F rfl rfl (x8 rfl rfl rfl) rfl ai (fun O _ F=>k2) ?_ (by kernel_rfl) (by kernel_rfl)
    |refine ji h fun x F h=>ov (W:=fun w=>tA _ w _) F rfl rfl (x8 rfl rfl rfl) rfl ai (fun O _ F=>k2) ?_ (by kernel_rfl) (by kernel_rfl))
   |refine aJE rfl ?_ (by kernel_rfl)
   |refine aJy rfl h (fun h=>?_) (fun h=>?_) (by kernel_rfl)
   |refine aJz rfl h (fun h=>?_) (fun h=>?_) (fun h=>?_) (by kernel_rfl)
   |refine aJB h (fun Y h=>?_) (fun Y h=>?_))
  |(refine asH ?_; first
   |with_reducible refine aBX h (fun aq h=>?_)
   |refine aBY ?_
   |refine Ce (fun h=>yM (by assumption) h) ?_
   |refine Ce (fun h O=>yM (by assumption) (h O)) ?_
   |refine Ce (fun h=>aB2 (by assumption) h) ?_
   |refine Ce (fun h=>aB3 (by assumption) h) ?_
   |refine Ce (fun h=>aB1 (by assumption) h) ?_
   |refine Ce (fun h=>aB0 (by assumption) h) ?_
   |refine Ce (fun _=>by assumption) ?_
   |refine aBZ ?_ (by kernel_rfl))
  |(refine aA8 ?_; first
   |refine me rfl (.av _ _ _ _ rfl rfl rfl (oy.it (by assumption))) rfl ?_
   |refine me rfl (.undef _ _ _ rfl rfl rfl) rfl ?_
   |first
    |(refine Cw 5 (.refl 5) ?_; refine hC rfl eY (gx rfl (fD rfl Jd.out rfl) h (fun r w h=>?_)))
    |(refine Cw 4 (.refl 4) ?_; (obtain⟨w,hw,aa,h⟩:=sD h; refine uu (d:=none) rfl eY rfl (st rfl cf.out rfl rfl aa hw) ?_))
    |(refine Cw 13 (.refl 13) ?_; (obtain⟨a,w,Y,hw,h⟩:=oQ h; refine y_ (d:=some _) rfl eY rfl (H6 rfl cf.out (by exact eU.out) Y hw) ?_))
    |(refine Cw 7 (.refl 7) ?_; first |refine hC rfl eY (IK rfl rfl bg.out ⟨_,bg.out⟩ cf.out eU.out rfl rfl (Nat.lt_of_lt_of_le Nat.zero_lt_one (Nat.le_of_ble_eq_true rfl)) rfl rfl h (fun r w h=>?_)) |refine hC rfl eY (Tv rfl rfl bg.out bg.out cf.out eU.out rfl rfl h (fun r w h=>?_)) |refine hC rfl eY (Tw rfl rfl bg.out cf.out eU.out rfl h (fun w h=>?_)) |refine hC rfl eY (TA rfl rfl bg.out rfl h (fun w h=>?_)) |refine hC rfl eY (TB rfl rfl bg.out bg.out rfl rfl h (fun w h=>?_)) |refine hC rfl eY (Tz rfl rfl bg.out cf.out rfl rfl h (fun r w h=>?_)))
    |(refine Cw 6 (.refl 6) ?_; first |refine hC rfl eY (Tx rfl rfl rfl rfl h (fun r w h=>?_)) |refine hC rfl eY (Ty rfl rfl rfl rfl h (fun r w h=>?_)))
    |(refine Cw 14 (.refl 14) ?_; first |refine hC rfl eY (TG rfl rfl bg.out bg.out bg.out rfl h (fun r w h=>?_)) |refine hC rfl eY (TD rfl rfl bg.out bg.out rfl h (fun w h=>?_)))
    |(refine Cw 20 (.refl 20) ?_; first |refine hC rfl eY (Fh rfl (.inl rfl) bg.out bg.out rfl rfl rfl h (fun w h=>?_)) |refine hC rfl eY (Fh rfl (.inr rfl) bg.out bg.out rfl rfl rfl h (fun w h=>?_)) |refine hC rfl eY (TC rfl rfl bg.out cf.out eU.out rfl rfl h (fun r w h=>?_)) |refine hC rfl eY (TF rfl rfl bg.out rfl h (fun r w h=>?_)) |refine hC rfl eY (TE rfl rfl rfl h (fun r w h=>?_)) |(obtain⟨a,w,Y,hw,h⟩:=EI h; refine y_ (d:=some _) rfl eY rfl (AF rfl bg.out cf.out eU.out rfl (by decide) (by decide) rfl Y hw) ?_) |(obtain⟨a,w,Y,hw,h⟩:=Gk h; refine y_ (d:=some _) rfl eY rfl (AF rfl bg.out cf.out eU.out rfl (by decide) (by decide) rfl Y hw) ?_) |(obtain⟨a,w,Y,hw,h⟩:=EI h; refine y_ (d:=some _) rfl eY rfl (Sn rfl bg.out cf.out eU.out Y hw) ?_) |(obtain⟨a,w,Y,hw,h⟩:=Lg h; refine y_ (d:=some _) rfl eY rfl (LB rfl Y hw) ?_) |(obtain⟨a,w,Y,hw,h⟩:=oQ h; refine y_ (d:=some _) rfl eY rfl (sq rfl cf.out rfl Y hw) ?_)))
  |exact akH h mV
  |exact akI h mV
  |exact akJ h mV
  |exact akK h mV
  |exact akL h mV
  |exact akM h mV
  |exact akG h mV
  |exact amW h rfl):p:=h
abbrev cD:=Nat→Option Obj
def cD.le(a e:cD):Prop:=∀ k G,a k=some G→e k=some G
def cD.off(a e:cD):Prop:=∀ k,a k=none∨e k=none
structure bE where
 p:cD→cD→Prop
 mono:∀ {aZ ho h fG:cD},cD.le aZ ho→cD.le h fG→p aZ h→p ho fG
theorem cD.le_refl(a:cD):cD.le a a:=fun _ _ h=>h
theorem cD.le_trans{a e c:cD}(h:cD.le a e)(k:cD.le e c):cD.le a c:=fun x G F=>k x G (h x G F)
theorem cD.Av{a e c:cD}(h:cD.off a e)(k:cD.le c e):cD.off a c:=fun x=>by
 cases U:c x with
 |none=>exact .inr rfl
 |some G=>exact .inl ((h x).resolve_right (by rw[k x G U]; simp))
theorem cD.ace{a e:cD}(h:cD.off a e):cD.off e a:=fun x=>(h x).symm
def iP:List bE→cD→cD→Prop
 |[],_,_=>True
 |aQ::m,aZ,h=>∃ I R,cD.off I R∧cD.le I h∧cD.le R h∧aQ.p aZ I∧iP m aZ R
theorem iP.mono:∀ {m:List bE} {aZ ho h fG:cD},cD.le aZ ho→cD.le h fG→iP m aZ h→iP m ho fG
 |[],_,_,_,_,_,_,_=>trivial
 |_::_,_,_,_,_,a_,cK,⟨I,R,aj,c0,c4,Y,al⟩=>⟨I,R,aj,(cD.le_trans c0 cK),(cD.le_trans c4 cK),bE.mono _ a_ (cD.le_refl _) Y,iP.mono a_ (cD.le_refl _) al⟩
def dH(m:List bE):bE:=⟨iP m,iP.mono⟩
def h8{Z:Type}(f:Z→bE):bE:=⟨fun aZ h=>∃ x,(f x).p aZ h,fun a_ cK ⟨x,F⟩=>⟨x,(f x).mono a_ cK F⟩⟩
def lG(fs:Prop):bE:=⟨fun _ _=>fs,fun _ _ h=>h⟩
def kF(e:Nat)(G:Obj):bE:=⟨fun _ h=>h e=some G,fun _ cK h=>cK e G h⟩
def aJ(e:Nat)(bd:List Value)(t:TypeId):bE:=kF e (.cells bd.toArray t)
def r1(fs:cD→Prop)(o:∀ {aZ ho:cD},cD.le aZ ho→fs aZ→fs ho):bE:=⟨fun aZ _=>fs aZ,fun a_ _ h=>o a_ h⟩
structure E(A:World)(m:List bE)(w:World):Prop where
 os:w.os=A.os
 tape:w.tape=A.tape
 output:w.output=A.output
 size:A.heap.size≤w.heap.size
 mem:∃ aZ h:cD,cD.off aZ h∧(∀ e G,aZ e=some G→w.heap[e]?=some G)∧(∀ e G,h e=some G→w.heap[e]?=some G)∧iP m aZ h
section
variable {A w J:World} {m bX:List bE} {aQ aV:bE}
theorem E.same(H:E A m w)(aj:J.os=w.os)(aT:J.tape=w.tape)(hu:J.output=w.output)(cK:J.heap=w.heap):E A m J:=
 ⟨aj.trans H.os,aT.trans H.tape,hu.trans H.output,cK▸H.size,by rw[cK]; exact H.mem⟩
theorem E.drew(H:E A m w):E A m w.drew:=H.same rfl rfl rfl rfl
theorem E.imp(H:E A m w)(h:∀ aZ h,iP m aZ h→iP bX aZ h):E A bX w:=
 ⟨H.os,H.tape,H.output,H.size,let ⟨aZ,k,a,e,c,d⟩:=H.mem; ⟨aZ,k,a,e,c,h aZ k d⟩⟩
theorem iP.swap{aZ h:cD}(H:iP (aQ::aV::m) aZ h):iP (aV::aQ::m) aZ h:=by
 obtain⟨I,R,aj,c0,c4,Y,aK,bp,Hc,yO,yP,ao,al⟩:=H;refine⟨aK,fun x=>if (aK x).isSome then none else h x,?_,(cD.le_trans yO c4),?_,ao,I,bp,?_,?_,?_,Y,al⟩
 ·intro x;cases h:aK x<;>simp[h]
 ·intro x G F;by_cases l:(aK x).isSome<;>simp[l] at F; exact F
 ·exact cD.Av aj yP
 ·intro x G F;have:aK x=none:=by
   rcases aj x with h | h
   ·rw[h] at F; cases F
   ·cases aoK:aK x with
    |none=>rfl
    |some u=>rw[yO x u aoK] at h; cases h
  simp[this,c0 x G F]
 ·intro x G F;have:aK x=none:=(Hc x).resolve_right (by rw[F]; simp);simp[this,c4 x G (yP x G F)]
theorem iP.tail{aZ h:cD}(g:∀ aZ h,iP m aZ h→iP bX aZ h)(H:iP (aQ::m) aZ h):iP (aQ::bX) aZ h:=by
 obtain⟨I,R,aj,c0,c4,Y,al⟩:=H;exact⟨I,R,aj,c0,c4,Y,g _ _ al⟩
theorem iP.perm(aF:m.Perm bX):∀ {aZ h:cD},iP m aZ h→iP bX aZ h:=by
 induction aF with
 |nil=>exact fun h=>h
 |cons x _ cq=>exact fun h=>iP.tail (fun _ _ h=>cq h) h
 |swap x S _=>exact fun h=>iP.swap h
 |trans _ _ i1 i2=>exact fun h=>i2 (i1 h)
theorem E.perm(H:E A m w)(aF:m.Perm bX):E A bX w:=H.imp fun _ _ h=>h.perm aF
def front(i:Nat)(m:List bE):List bE:=match m,i with
 |[],_=>[]
 |aQ::m,0=>aQ::m
 |aQ::m,i+1=>match front i m with
  |[]=>[aQ]
  |aV::r=>aV::aQ::r
theorem Ph:∀ (i:Nat) (m:List bE),m.Perm (front i m)
 |_,[]=>by simp[front]
 |0,_::_=>.refl _
 |i+1,aQ::m=>by
  have cq:=Ph i m;simp only[front];cases am:front i m with
  |nil=>rw[am] at cq; rw[List.Perm.eq_nil cq]
  |cons aV r=>rw[am] at cq; exact (cq.cons aQ).trans (.swap aV aQ r)
theorem E.front(i:Nat)(H:E A m w):E A (front i m) w:=H.perm (Ph i m)
def ord:List Nat→List bE→List bE
 |[],m=>m
 |i::Et,m=>_root_.Go.Proofs.YthaobmpdjcoheaaGreat.bj.front (i+(Et.filter fun D=>Nat.blt i D).length) (ord Et m)
theorem E.ord:∀ (Et:List Nat),E A m w→E A (bj.ord Et m) w
 |[],H=>H
 |i::Et,H=>(E.ord Et H).front _
theorem E.drop(H:E A (aQ::m) w):E A m w:=H.imp fun _ _ ⟨_,_,_,_,c4,_,al⟩=>iP.mono (cD.le_refl _) c4 al
theorem E.ex{Z:Type}{f:Z→bE}(H:E A (h8 f::m) w):∃ x,E A (f x::m) w:=by
 obtain⟨aZ,h,a,e,c,I,R,aj,c0,c4,⟨x,F⟩,al⟩:=H.mem;exact⟨x,H.os,H.tape,H.output,H.size,aZ,h,a,e,c,I,R,aj,c0,c4,F,al⟩
theorem E.mU{Z:Type}{f:Z→bE}(x:Z)(H:E A (f x::m) w):E A (h8 f::m) w:=
 H.imp fun _ _ ⟨I,R,aj,c0,c4,Y,al⟩=>⟨I,R,aj,c0,c4,⟨x,Y⟩,al⟩
theorem E.vJ{fs:Prop}(H:E A (lG fs::m) w):fs∧E A m w:=by
 refine⟨?_,H.drop⟩;obtain⟨aZ,h,a,e,c,I,R,aj,c0,c4,F,al⟩:=H.mem;exact F
theorem E.v1{fs:Prop}(asE:fs)(H:E A m w):E A (lG fs::m) w:=
 H.imp fun _ h al=>⟨fun _=>none,h,fun _=>.inl rfl,fun _ _ h=>(by cases h),cD.le_refl _,asE,al⟩
theorem iP.append{bX:List bE}{aZ h:cD}:∀ {m:List bE},iP (m++bX) aZ h↔iP (dH m::bX) aZ h
 |[]=>⟨fun H=>⟨fun _=>none,h,fun _=>.inl rfl,fun _ _ h=>(by cases h),cD.le_refl _,trivial,H⟩,fun ⟨_,_,_,_,c4,_,al⟩=>iP.mono (cD.le_refl _) c4 al⟩
 |aQ::m=>by
  constructor
  ·rintro⟨I,R,aj,c0,c4,Y,al⟩;obtain⟨aK,bp,Hc,yO,yP,aH,G6⟩:=iP.append.1 al;refine⟨fun x=>(I x).or (aK x),bp,?_,?_,(cD.le_trans yP c4),⟨I,aK,cD.Av aj yO,?_,?_,Y,aH⟩,G6⟩
   ·intro x;rcases Hc x with h | h
    ·rcases cD.Av aj yP x with k | k
     ·left; simp[h,k]
     ·exact .inr k
    ·exact .inr h
   ·intro x G F;cases l:I x with
    |some u=>simp[l] at F; subst F; exact c0 x u l
    |none=>simp[l] at F; exact c4 x G (yO x G F)
   ·intro x G F; simp[F]
   ·intro x G F;have:I x=none:=(cD.Av aj yO x).resolve_right (by rw[F]; simp);simp[this,F]
  ·rintro⟨ZL,bp,aj,KP,yP,⟨I,aK,Hc,c0,yO,Y,aH⟩,G6⟩;refine⟨I,fun x=>if (I x).isSome then none else h x,?_,(cD.le_trans c0 KP),?_,Y,?_⟩
   ·intro x; cases l:I x<;>simp[l]
   ·intro x G F;by_cases l:(I x).isSome<;>simp[l] at F; exact F
   ·refine iP.append.2 ⟨aK,bp,cD.Av (cD.ace (cD.Av (cD.ace aj) yO)) (cD.le_refl _),?_,?_,aH,G6⟩
    ·intro x G F;have:I x=none:=(Hc x).resolve_right (by rw[F]; simp);simp[this,KP x G (yO x G F)]
    ·intro x G F;have:I x=none:=by
      rcases aj x with k | k
      ·cases l:I x with
       |none=>rfl
       |some u=>rw[c0 x u l] at k; cases k
      ·rw[k] at F; cases F
     simp[this,yP x G F]
theorem E.open_{bX:List bE}(H:E A (dH bX::m) w):E A (bX++m) w:=H.imp fun _ _ h=>iP.append.2 h
theorem E.shut{bX:List bE}(H:E A (bX++m) w):E A (dH bX::m) w:=H.imp fun _ _ h=>iP.append.1 h
theorem E.dup{fs:cD→Prop}{o:∀ {aZ ho:cD},cD.le aZ ho→fs aZ→fs ho}(H:E A (r1 fs o::m) w):E A (r1 fs o::r1 fs o::m) w:=
 H.imp fun _ h ⟨I,R,aj,c0,c4,Y,al⟩=>⟨fun _=>none,h,fun _=>.inl rfl,fun _ _ h=>(by cases h),cD.le_refl _,Y,I,R,aj,c0,c4,Y,al⟩
theorem E.pP{fs:cD→Prop}{o:∀ {aZ ho:cD},cD.le aZ ho→fs aZ→fs ho}(H:E A (r1 fs o::m) w):∃ aZ:cD,(∀ e G,aZ e=some G→w.heap[e]?=some G)∧fs aZ:=by
 obtain⟨aZ,h,a,e,c,I,R,aj,c0,c4,F,al⟩:=H.mem;exact⟨aZ,e,F⟩
theorem E.QO{fs v_:cD→Prop}{o:∀ {aZ ho:cD},cD.le aZ ho→fs aZ→fs ho}{yU:∀ {aZ ho:cD},cD.le aZ ho→v_ aZ→v_ ho}(h:∀ aZ,fs aZ→v_ aZ)(H:E A (r1 fs o::m) w):E A (r1 v_ yU::m) w:=
 H.imp fun aZ _ ⟨I,R,aj,c0,c4,Y,al⟩=>⟨I,R,aj,c0,c4,h aZ Y,al⟩
theorem E.get{e:Nat}{G:Obj}(H:E A (kF e G::m) w):w.heap[e]?=some G:=by
 obtain⟨aZ,h,a,tS,c,I,R,aj,c0,c4,F,al⟩:=H.mem;exact c e G (c0 e G F)
theorem E.put{e:Nat}{G u:Obj}(H:E A (kF e G::m) w)(I:J.os=w.os)(R:J.tape=w.tape)(aK:J.output=w.output)(bp:J.heap=w.heap.setIfInBounds e u):E A (kF e u::m) J:=by
 obtain⟨aZ,h,a,tS,c,dx,ef,aj,c0,c4,F,al⟩:=H.mem;have ao:=c e G (c0 e G F);have dI:e<w.heap.size:=(Array.getElem?_eq_some_iff.1 ao).1;refine⟨I.trans H.os,R.trans H.tape,aK.trans H.output,by rw[bp]; simpa using H.size,aZ,fun x=>if x=e then some u else ef x,?_,?_,?_,fun x=>if x=e then some u else none,ef,?_,?_,?_,?_,al⟩
 ·intro x;by_cases l:x=e
  ·subst l; exact .inl ((a x).resolve_right (by rw[c0 x G F]; simp))
  ·simp only[l,if_false];exact cD.Av a c4 x
 ·intro x v aL;rw[bp,Array.getElem?_setIfInBounds];have d_:e≠x:=by
   intro l; subst l;have:=(a e).resolve_right (by rw[c0 e G F]; simp);rw[this] at aL; cases aL
  rw[if_neg d_]; exact tS x v aL
 ·intro x v aL;rw[bp,Array.getElem?_setIfInBounds];by_cases l:x=e
  ·subst l; simp at aL; simp[dI,aL]
  ·simp only[l,if_false] at aL;rw[if_neg (fun h=>l h.symm)];exact c x v (c4 x v aL)
 ·intro x;by_cases l:x=e
  ·subst l; right; exact (aj x).resolve_left (by rw[F]; simp)
  ·left; simp[l]
 ·intro x v aL;by_cases l:x=e<;>simp[l] at aL ⊢; exact aL
 ·intro x v aL;have:x≠e:=by
   intro l; subst l;have:=(aj x).resolve_left (by rw[F]; simp);rw[this] at aL; cases aL
  simp[this,aL]
 ·show (fun x=>if x=e then some u else none) e=some u
  simp
theorem E.alloc(G:Obj)(H:E A m w):E A (kF w.heap.size G::m) (w.alloc G):=by
 obtain⟨aZ,h,a,tS,c,al⟩:=H.mem;have a_:aZ w.heap.size=none:=by
  cases l:aZ w.heap.size with
  |none=>rfl
  |some u=>have:=tS _ _ l; simp at this
 have cK:h w.heap.size=none:=by
  cases l:h w.heap.size with
  |none=>rfl
  |some u=>have:=c _ _ l; simp at this
 refine⟨H.os,H.tape,H.output,by have:=H.size; simp; omega,aZ,fun x=>if x=w.heap.size then some G else h x,?_,?_,?_,fun x=>if x=w.heap.size then some G else none,h,?_,?_,?_,?_,al⟩
 ·intro x;by_cases l:x=w.heap.size
  ·subst l; exact .inl a_
  ·simp only[l,if_false]; exact a x
 ·intro x v aL;have dI:x<w.heap.size:=(Array.getElem?_eq_some_iff.1 (tS x v aL)).1;simp only[World.alloc,Array.getElem?_push];rw[if_neg (by omega)]; exact tS x v aL
 ·intro x v aL;simp only[World.alloc,Array.getElem?_push];by_cases l:x=w.heap.size
  ·simp[l] at aL ⊢; exact aL
  ·simp only[l,if_false] at aL ⊢; exact c x v aL
 ·intro x;by_cases l:x=w.heap.size
  ·right; rw[l]; exact cK
  ·left; simp[l]
 ·intro x v aL;by_cases l:x=w.heap.size<;>simp[l] at aL ⊢; exact aL
 ·intro x v aL;have:x≠w.heap.size:=by intro l; rw[l,cK] at aL; cases aL
  simp[this,aL]
 ·show (fun x=>if x=w.heap.size then some G else none) w.heap.size=some G
  simp
theorem E.stay{e:Nat}{G:Obj}(H:E A (kF e G::m) w):E A (r1 (fun aZ=>aZ e=some G) (fun h k=>h _ _ k)::m) w:=by
 obtain⟨aZ,h,a,tS,c,dx,ef,aj,c0,c4,F,al⟩:=H.mem;have ao:=c e G (c0 e G F);have aoS:aZ e=none:=(a e).resolve_right (by rw[c0 e G F]; simp);have ll:cD.le aZ (fun x=>if x=e then some G else aZ x):=by
  intro x v aL;have:x≠e:=by intro l; rw[l,aoS] at aL; cases aL
  simp[this,aL]
 refine⟨H.os,H.tape,H.output,H.size,fun x=>if x=e then some G else aZ x,ef,?_,?_,?_,fun _=>none,ef,fun _=>.inl rfl,fun _ _ h=>(by cases h),cD.le_refl _,?_,iP.mono ll (cD.le_refl _) al⟩
 ·intro x;by_cases l:x=e
  ·subst l; right; exact (aj x).resolve_left (by rw[F]; simp)
  ·simp only[l,if_false]; exact cD.Av a c4 x
 ·intro x v aL;by_cases l:x=e
  ·subst l; simp at aL; subst aL; exact ao
  ·simp only[l,if_false] at aL; exact tS x v aL
 ·intro x v aL; exact c x v (c4 x v aL)
 ·show (fun x=>if x=e then some G else aZ x) e=some G
  simp
end
section
variable {A w J:World} {m bX:List bE} {aQ aV:bE} {Z:Type} {T:bz Z} {t:TypeId}
theorem l0(e G n:Nat):(⟨e,G,none⟩:Addr).add n=⟨e,G+n,none⟩:=by
 unfold Addr.add;by_cases h:n=0
 ·subst h; rfl
 ·rw[if_neg h]
theorem u2{e:Nat}{bd:Array Value}{nH:Nat×Nat}(h:w.heap[e]?=some (.cells bd t nH))(D:Nat):w.cell? ⟨e,D,none⟩=bd[D]?:=by
 simp[World.cell?,h]
theorem aov{e:Nat}{bd:Array Value}(h:w.heap[e]?=some (.cells bd t))(D:Nat):w.frozen? ⟨e,D,none⟩=false:=by
 simp[World.frozen?,h]
def at_(bd:List Value)(G n:Nat):List Value:=(bd.drop G).take n
theorem aeu{e G:Nat}{bd xs:List Value}(H:E A (aJ e bd t::m) w)(h:at_ bd G xs.length=xs):o6 w ⟨e,G,none⟩ xs:=by
 intro D v aL;have ao:=H.get;rw[l0,u2 ao];have dI:=(List.getElem?_eq_some_iff.1 aL).1;rw[← h] at aL;simp only[at_,List.getElem?_take,List.getElem?_drop] at aL;rw[if_pos dI] at aL;simpa using aL
theorem C1{e G n:Nat}{bd:List Value}(H:E A (aJ e bd t::m) w)(h:G+n≤bd.length):wx w ⟨e,G,none⟩ n:=by
 intro D bT;have ao:=H.get;rw[l0];refine⟨?_,aov ao _⟩;rw[u2 ao];have:G+D<bd.toArray.size:=by simp; omega
 rw[Array.getElem?_eq_getElem this]; rfl
theorem bO{Z:Type}(T:bz Z){e G:Nat}{bd:List Value}{x:Z}{a:Addr}(H:E A (aJ e bd t::m) w)(Y:a=⟨e,G,none⟩)(h:at_ bd G (T.cells x).length=T.cells x):L T a w x:=by subst Y; exact aeu H h
def jM(bd:List Value)(G:Nat)(xs:List Value):List Value:=bd.take G++xs++bd.drop (G+xs.length)
theorem aHR(bd:List Value)(G:Nat)(v:Value)(xs:List Value)(h:G<bd.length):jM (bd.set G v) (G+1) xs=jM bd G (v::xs):=by
 simp only[jM,List.length_cons];rw[List.drop_set_of_lt (by omega),List.take_set,List.take_add_one];have I:bd[G]?.toList=[bd[G]]:=by rw[List.getElem?_eq_getElem h]; rfl
 rw[I];have R:(bd.take G++[bd[G]]).set G v=bd.take G++[v]:=by
  rw[List.set_append_right _ _ (by simp; omega)];have:G-(bd.take G).length=0:=by simp; omega
  rw[this]; rfl
 rw[R,show G+1+xs.length=G+(xs.length+1) from by omega];simp
theorem aHT(bd:List Value)(G:Nat)(xs:List Value)(h:G+xs.length≤bd.length):(jM bd G xs).length=bd.length:=by
 simp[jM]; omega
theorem aHV(bd:List Value)(G:Nat):jM bd G []=bd:=by simp[jM]
theorem aHr{e G:Nat}{bd:Array Value}{nH:Nat×Nat}{v:Value}(h:w.heap[e]?=some (.cells bd t nH)):(w.setCell ⟨e,G,none⟩ v).heap=w.heap.setIfInBounds e (.cells (bd.setIfInBounds G v) t nH):=by
 have dI:e<w.heap.size:=(Array.getElem?_eq_some_iff.1 h).1;simp only[World.setCell];apply Array.ext_getElem?;intro i;rw[Array.getElem?_modify,Array.getElem?_setIfInBounds];by_cases l:e=i
 ·subst l;have ao:w.heap[e]=.cells bd t nH:=by rw[Array.getElem?_eq_getElem dI] at h; exact Option.some.inj h
  simp[dI,ao]
 ·simp[l]
theorem AB{e:Nat}:∀ (xs:List Value) (G i:Nat) (bd:List Value) (w:World),E A (aJ e bd t::m) w→G+i+xs.length≤bd.length →
  E A (aJ e (jM bd (G+i) xs) t::m) (oS w ⟨e,G,none⟩ i xs)
 |[],G,i,bd,w,H,_=>by rw[aHV]; exact H
 |v::xs,G,i,bd,w,H,al=>by
  have ao:=H.get;have dI:G+i<bd.length:=by simp at al; omega
  have hb:E A (aJ e (bd.set (G+i) v) t::m) (w.setCell ⟨e,G+i,none⟩ v):=H.put rfl rfl rfl (by rw[aHr ao]; simp);have:=AB xs G (i+1) (bd.set (G+i) v) _ hb (by simp at al ⊢; omega);rw[show G+(i+1)=G+i+1 from by omega,aHR _ _ _ _ dI] at this;simpa only[oS,l0] using this
theorem bR{x:Z}{k:Addr→World→Prop}(H:E A m w)(aq:∀ e J,E A (aJ e (T.cells x) t::m) J→k ⟨e,0,none⟩ J):bQ t T x w k:=aq _ _ (H.alloc _)
theorem vA{xs:List Z}{k:Addr→World→Prop}(H:E A m w)(aq:∀ e J,E A (aJ e (xs.flatMap T.cells) t::m) J→k ⟨e,0,none⟩ J):tk t T xs w k:=aq _ _ (H.alloc _)
theorem xc{k:Nat→World→Prop}(H:E A m w)(aq:∀ e J,E A (kF e (.map #[] 0)::m) J→k e J):ur w k:=aq _ _ (H.alloc _)
theorem dy{k:World→Prop}(H:E A m w)(aq:∀ J,E A m J→k J):dw w k:=aq _ H.drew
theorem ak{e G:Nat}{bd:List Value}{x:Z}{a:Addr}{k:Z→Prop}(i:Nat)(H:E A m w)(ay:front i m=aJ e bd t::bX)(Y:a=⟨e,G,none⟩)(F:at_ bd G (T.cells x).length=T.cells x)(aq:k x):ex (L T a w) k:=
 ⟨x,by subst Y; exact aeu (ay▸H.front i) F,aq⟩
theorem dK{e G:Nat}{bd:List Value}{x:Z}{a:Addr}{k:World→Prop}(i:Nat)(H:E A m w)(ay:front i m=aJ e bd t::bX)(Y:a=⟨e,G,none⟩)(al:G+(T.cells x).length≤bd.length)
  (aq:∀ J,E A (aJ e (jM bd G (T.cells x)) t::bX) J→k J):bi T a x w k:=by
 subst Y;exact⟨C1 (ay▸H.front i) al,aq _ (AB (T.cells x) G 0 bd w (ay▸H.front i) (by simpa using al))⟩
theorem aR{Z:Type}{C k:Z→Prop}(x:Z)(h:C x)(aq:k x):ex C k:=⟨x,h,aq⟩
theorem ch{p:Option Addr}{a:Addr}{k:Addr→Prop}(h:p=some a)(aq:k a):ex (bM p) k:=⟨a,h,aq⟩
def Lr(aQ aV:bE):bE:=⟨fun aZ h=>aQ.p aZ h∨aV.p aZ h,fun a_ cK h=>h.imp (aQ.mono a_ cK) (aV.mono a_ cK)⟩
theorem E.or(H:E A (Lr aQ aV::m) w):E A (aQ::m) w∨E A (aV::m) w:=by
 obtain⟨aZ,h,a,e,c,I,R,aj,c0,c4,F,al⟩:=H.mem;rcases F with F | F
 ·exact .inl ⟨H.os,H.tape,H.output,H.size,aZ,h,a,e,c,I,R,aj,c0,c4,F,al⟩
 ·exact .inr ⟨H.os,H.tape,H.output,H.size,aZ,h,a,e,c,I,R,aj,c0,c4,F,al⟩
theorem E.inl(H:E A (aQ::m) w):E A (Lr aQ aV::m) w:=H.imp fun _ _ ⟨I,R,aj,c0,c4,Y,al⟩=>⟨I,R,aj,c0,c4,.inl Y,al⟩
theorem E.inr(H:E A (aV::m) w):E A (Lr aQ aV::m) w:=H.imp fun _ _ ⟨I,R,aj,c0,c4,Y,al⟩=>⟨I,R,aj,c0,c4,.inr Y,al⟩
def fN:af:=⟨none,0,0⟩
def row(T:bz Z)(t:TypeId)(ar:Nat)(s:af)(xs:List Z):bE:=
 Lr (lG (s=fN∧xs=[])) (h8 fun e=>h8 fun rest=>dH [lG (s.a=some ⟨e,0,none⟩∧s.len=xs.length∧s.len≤s.cap∧(s.cap-s.len)*ar≤rest.length),aJ e (xs.flatMap T.cells++rest) t])
def dd(T:bz Z)(s:af)(xs:List Z)(aZ:cD):Prop:=
 xs.length=s.len∧(xs=[]∨∃ e G aX t nH,s.a=some ⟨e,G,none⟩∧aZ e=some (.cells aX t nH)∧∀ D v,(xs.flatMap T.cells)[D]?=some v→aX[G+D]?=some v)
theorem dd.mono{s:af}{xs:List Z}{aZ ho:cD}(h:cD.le aZ ho):dd T s xs aZ→dd T s xs ho:=fun ⟨I,R⟩=>
 ⟨I,R.imp id fun ⟨e,G,aX,t,nH,aK,bp,dz⟩=>⟨e,G,aX,t,nH,aK,h _ _ bp,dz⟩⟩
def ro(T:bz Z)(s:af)(xs:List Z):bE:=r1 (dd T s xs) dd.mono
theorem k4(T:bz Z)(t:TypeId)(ar:Nat)(H:E A m w):E A (row T t ar fN []::m) w:=E.inl (E.v1 ⟨rfl,rfl⟩ H)
theorem oV{ar:Nat}{s:af}{xs:List Z}(H:E A (row T t ar s xs::m) w) :
  (s=fN∧xs=[]∧E A m w)∨∃ e rest,s.a=some ⟨e,0,none⟩∧s.len=xs.length∧s.len≤s.cap∧(s.cap-s.len)*ar≤rest.length∧E A (aJ e (xs.flatMap T.cells++rest) t::m) w:=by
 rcases H.or with H | H
 ·obtain⟨⟨I,R⟩,H⟩:=H.vJ;exact .inl ⟨I,R,H⟩
 ·obtain⟨e,H⟩:=H.ex;obtain⟨rest,H⟩:=H.ex;have H:=H.open_;obtain⟨⟨I,R,aK,bp⟩,H⟩:=E.vJ (fs:=s.a=some ⟨e,0,none⟩∧s.len=xs.length∧s.len≤s.cap∧(s.cap-s.len)*ar≤rest.length) H;exact .inr ⟨e,rest,I,R,aK,bp,H⟩
theorem uC{ar e:Nat}{rest:List Value}{s:af}{xs:List Z}(I:s.a=some ⟨e,0,none⟩)(R:s.len=xs.length)(aK:s.len≤s.cap)(bp:(s.cap-s.len)*ar≤rest.length)(H:E A (aJ e (xs.flatMap T.cells++rest) t::m) w) :
  E A (row T t ar s xs::m) w:=E.inr (E.mU e (E.mU rest (E.shut (bX:=[lG _,aJ e (xs.flatMap T.cells++rest) t]) (E.v1 ⟨I,R,aK,bp⟩ H))))
theorem uB{ar e:Nat}{xs:List Z}{o:Nat}(hm:o=xs.length)(H:E A (aJ e (xs.flatMap T.cells) t::m) w):E A (row T t ar ⟨some ⟨e,0,none⟩,o,o⟩ xs::m) w:=
 uC (rest:=[]) rfl hm (Nat.le_refl _) (by simp) (by rw[List.append_nil]; exact H)
theorem gG{ar:Nat}{s:af}{xs:List Z}(H:E A (row T t ar s xs::m) w):s.len=xs.length:=by
 rcases oV H with ⟨rfl,rfl,_⟩ | ⟨e,rest,_,h,_⟩
 ·rfl
 ·exact h
theorem E0{s:af}{xs:List Z}(H:E A (ro T s xs::m) w):s.len=xs.length:=by
 obtain⟨aZ,_,h⟩:=H.pP; exact h.1.symm
theorem vP{ar:Nat}{s:af}{xs:List Z}(H:E A (row T t ar s xs::m) w):E A (ro T s xs::m) w:=by
 rcases oV H with ⟨rfl,rfl,lR⟩ | ⟨e,rest,I,R,aK,bp,H⟩
 ·exact lR.imp fun aZ h al=>⟨fun _=>none,h,fun _=>.inl rfl,fun _ _ h=>(by cases h),cD.le_refl _,⟨rfl,.inl rfl⟩,al⟩
 ·refine E.QO (fun aZ a_=>⟨R.symm,.inr ⟨e,0,_,t,(0,0),I,a_,?_⟩⟩) H.stay;intro D v aL;have dI:=(List.getElem?_eq_some_iff.1 aL).1;rw[Nat.zero_add];simp only[List.getElem?_toArray];rw[List.getElem?_append_left dI]; exact aL
theorem Pc{ar:Nat}(al:∀ x,(T.cells x).length=ar):∀ (xs:List Z) (i:Nat) (x:Z),xs[i]?=some x→∀ D v,(T.cells x)[D]?=some v→(xs.flatMap T.cells)[i*ar+D]?=some v
 |[],i,x,h,_,_,_=>by simp at h
 |S::xs,0,x,h,D,v,aL=>by
  simp at h; subst h;have dI:=(List.getElem?_eq_some_iff.1 aL).1;rw[List.flatMap_cons,Nat.zero_mul,Nat.zero_add,List.getElem?_append_left dI]; exact aL
 |S::xs,i+1,x,h,D,v,aL=>by
  have cq:=Pc al xs i x (by simpa using h) D v aL;rw[List.flatMap_cons,List.getElem?_append_right (by rw[al,Nat.add_mul]; omega),al];rw[show (i+1)*ar+D-ar=i*ar+D from by rw[Nat.add_mul]; omega]; exact cq
theorem my{ar:Nat}{s:af}{xs:List Z}{i:Int}{a:Addr}{x:Z}(al:∀ x,(T.cells x).length=ar)(Y:cT s ar i a)(F:xs[i.toNat]?=some x)(H:E A (row T t ar s xs::m) w):o6 w a (T.cells x):=by
 obtain⟨c,U,ah,I,rfl⟩:=Y;rcases oV H with ⟨rfl,rfl,H⟩ | ⟨e,rest,R,aK,bp,dz,H⟩
 ·cases U
 ·rw[R] at U; injection U with U; subst U
  have ao:=H.get;intro D v aL;rw[l0,l0,u2 ao,Nat.zero_add];have:=Pc al xs i.toNat x F D v aL;have dI:=(List.getElem?_eq_some_iff.1 this).1;simp only[List.getElem?_toArray];rw[List.getElem?_append_left dI]; exact this
theorem AH{ar:Nat}{s:af}{xs:List Z}{i:Int}{a:Addr}{x:Z}(al:∀ x,(T.cells x).length=ar)(Y:cT s ar i a)(F:xs[i.toNat]?=some x)(H:E A (ro T s xs::m) w):o6 w a (T.cells x):=by
 obtain⟨c,U,ah,I,rfl⟩:=Y;obtain⟨aZ,a_,R,aK | ⟨e,G,aX,tr,nH,bp,dz,iG⟩⟩:=H.pP
 ·rw[aK] at F; simp at F
 ·rw[bp] at U; injection U with U; subst U
  intro D v aL;rw[l0,l0,u2 (a_ _ _ dz)];rw[show G+i.toNat*ar+D=G+(i.toNat*ar+D) from by omega];exact iG _ _ (Pc al xs i.toNat x F D v aL)
theorem abt{ar:Nat}{s:af}{xs:List Z}{i:Int}{k:Addr→Prop}(H:E A (row T t ar s xs::m) w)(ah:0≤i)(I:i<xs.length)(aq:∀ a,cT s ar i a→k a):ex (cT s ar i) k:=by
 rcases oV H with ⟨rfl,rfl,H⟩ | ⟨e,rest,R,aK,_⟩
 ·simp at I; omega
 ·exact⟨_,⟨_,R,ah,by omega,rfl⟩,aq _ ⟨_,R,ah,by omega,rfl⟩⟩
theorem aBL{ar:Nat}{s:af}{xs:List Z}{i:Int}{k:Addr→Prop}(H:E A (ro T s xs::m) w)(ah:0≤i)(I:i<xs.length)(aq:∀ a,cT s ar i a→k a):ex (cT s ar i) k:=by
 obtain⟨aZ,a_,R,aK | ⟨e,G,aX,tr,nH,bp,dz,iG⟩⟩:=H.pP
 ·rw[aK] at I; simp at I; omega
 ·exact⟨_,⟨_,bp,ah,by omega,rfl⟩,aq _ ⟨_,bp,ah,by omega,rfl⟩⟩
theorem Og{a:Addr}{bd gX:List Value}{G:Nat}(h:o6 w a bd)(Y:a.spot=none)(aH:at_ bd G gX.length=gX):o6 w (a.add G) gX:=by
 intro D v aL;have dI:=(List.getElem?_eq_some_iff.1 aL).1;rw[← aH] at aL;simp only[at_,List.getElem?_take,List.getElem?_drop] at aL;rw[if_pos dI] at aL;have:=h (G+D) v aL;obtain⟨e,p,q⟩:=a;simp only at Y; subst Y;rw[l0,l0] at *;rw[show p+G+D=p+(G+D) from by omega]; exact this
theorem Do{ar:Nat}{s:af}{xs:List Z}(H:E A (row T t ar s xs::m) w):lu T w s xs:=by
 rcases oV H with ⟨rfl,rfl,H⟩ | ⟨e,rest,R,aK,bp,dz,H⟩
 ·exact⟨rfl,rfl⟩
 ·refine⟨aK.symm,?_⟩;rw[R];have ao:=H.get;intro D v aL;have dI:=(List.getElem?_eq_some_iff.1 aL).1;rw[l0,u2 ao,Nat.zero_add];simp only[List.getElem?_toArray];rw[List.getElem?_append_left dI]; exact aL
theorem Xn{s:af}{xs:List Z}(H:E A (ro T s xs::m) w):lu T w s xs:=by
 obtain⟨aZ,a_,R,aK | ⟨e,G,aX,tr,nH,bp,dz,iG⟩⟩:=H.pP
 ·refine⟨R,?_⟩;subst aK;generalize s.a=q;cases q with
  |none=>rfl
  |some a=>intro D v aL; simp at aL
 ·refine⟨R,?_⟩;rw[bp];intro D v aL;rw[l0,u2 (a_ _ _ dz)];exact iG _ _ aL
theorem Ot{ar av:Nat}{s:af}{xs new:List Z}{k:af→World→Prop}(al:∀ x,(T.cells x).length=ar)(H:E A (row T t ar s xs::m) w)(ao:(xs.length+new.length)*av≤140737488355328)
  (aq:∀ r J,E A (row T t ar r (xs++new)::m) J→k r J):mo t T ar av s new w k:=by
 have aM:=gG H;have qn:=Do H;refine⟨fun U=>?_,fun U=>⟨by rw[aM]; exact ao,xs,qn,fun c rest I R=>?_⟩⟩
 ·rcases oV H with ⟨rfl,rfl,lR⟩ | ⟨e,rest,R,aK,bp,dz,H⟩
  ·have ah:new=[]:=by
    cases new with
    |nil=>rfl
    |cons=>simp[fN] at U
   subst ah;exact aq _ _ (k4 T t ar lR)
  ·rw[R];simp only[l0,Nat.zero_add];have nf:(xs.flatMap T.cells).length=s.len*ar:=by rw[n_ al,aK]
   have mP:(new.flatMap T.cells).length=new.length*ar:=n_ al _;have uf:new.length*ar≤rest.length:=Nat.le_trans (Nat.mul_le_mul_right ar (by omega)) dz;refine⟨C1 H (by simp[nf]; omega),aq _ _ ?_⟩;have:=AB (new.flatMap T.cells) (s.len*ar) 0 _ _ H (by simp[nf,mP]; omega)
   refine uC (rest:=rest.drop (new.length*ar)) rfl (by simp; omega) (by simpa using U) (by
    rw[List.length_drop];have l:(s.cap-(s.len+new.length))*ar=(s.cap-s.len)*ar-new.length*ar:=by rw[← Nat.sub_mul]; congr 1; omega
    simp only
    rw[l]; omega) ?_
   have l:jM (xs.flatMap T.cells++rest) (s.len*ar+0) (new.flatMap T.cells)=(xs++new).flatMap T.cells++rest.drop (new.length*ar):=by
    simp only[jM,Nat.add_zero,mP];rw[← nf,List.take_left,List.drop_append];simp
   rw[l] at this;exact this
 ·have hb:E A m w.drew:=(H.drop).drew;refine aq _ _ (uC rfl (by simp; omega) I (by simpa using Nat.le_of_eq R.symm) (hb.alloc _))
theorem nF{ar av:Nat}{s:af}{xs new:List Z}{k:af→World→Prop}(al:∀ x,(T.cells x).length=ar)(i:Nat)(H:E A m w)(ay:front i m=row T t ar s xs::bX)(ao:(xs.length+new.length)*av≤140737488355328)
  (aq:∀ r J,E A (row T t ar r (xs++new)::bX) J→k r J):mn t T ar av s new w k:=by
 have hb:E A (row T t ar s xs::bX) w:=ay▸H.front i;have hn:=hb.alloc (.cells (new.flatMap T.cells).toArray t);exact Ot al hn.drop ao aq
theorem DH{ar av:Nat}{s e:af}{xs new:List Z}{k:af→World→Prop}(al:∀ x,(T.cells x).length=ar)(i:Nat)(H:E A m w)(ay:front i m=row T t ar s xs::bX)(aM:lu T w e new)(ao:(xs.length+new.length)*av≤140737488355328)
  (aq:∀ r J,E A (row T t ar r (xs++new)::bX) J→k r J):tO t T ar av s e w k:=
 ⟨new,aM,Ot al (ay▸H.front i) ao aq⟩
end
section
variable {A w J:World} {m bX:List bE} {aQ aV:bE} {Z:Type} {T:bz Z} {t:TypeId} {k:IntKind}
theorem tg(key:Int)(v:Z)(x:Int):∀ es:List (Int×Z),(eZ key v es).lookup x=if x==key then some v else es.lookup x
 |[]=>by
  by_cases h:(x==key)=true
  ·simp[eZ,List.lookup,h]
  ·simp only[Bool.not_eq_true] at h; simp[eZ,List.lookup,h]
 |(a,e)::es=>by
  have cq:=tg key v x es;simp only[eZ];by_cases h:(key==a)=true
  ·have l:key=a:=by simpa using h
   subst l;by_cases g:(x==key)=true
   ·simp[List.lookup,g]
   ·simp only[Bool.not_eq_true] at g; simp[List.lookup,g]
  ·simp only[Bool.not_eq_true] at h;simp only[h,Bool.false_eq_true,if_false,List.lookup,cq];by_cases g:(x==a)=true
   ·have l:x=a:=by simpa using g
    subst l;have:(x==key)=false:=by simpa using fun l=>by simp[l] at h
    simp[this]
   ·simp only[Bool.not_eq_true] at g; simp[g]
theorem KN(key:Int)(v:Z):∀ es:List (Int×Z),(eZ key v es).map (·.1)=if (es.lookup key).isSome then es.map (·.1) else es.map (·.1)++[key]
 |[]=>rfl
 |(a,e)::es=>by
  have cq:=KN key v es;simp only[eZ];by_cases h:(key==a)=true
  ·have l:key=a:=by simpa using h
   subst l; simp[List.lookup]
  ·simp only[Bool.not_eq_true] at h;simp only[h,Bool.false_eq_true,if_false,List.lookup,List.map_cons,cq];split<;>simp
theorem HL{key:Int}:∀ {es:List (Int×Z)},es.lookup key=none↔key∉es.map (·.1)
 |[]=>by simp
 |(a,e)::es=>by
  by_cases h:(key==a)=true
  ·have l:key=a:=by simpa using h
   subst l; simp[List.lookup]
  ·simp only[Bool.not_eq_true] at h;have l:key≠a:=by simpa using h
   simp only[List.lookup,h,List.map_cons,List.mem_cons,l,false_or];exact HL
theorem EH{key:Int}{v:Z}{es:List (Int×Z)}(h:(es.map (·.1)).Nodup):((eZ key v es).map (·.1)).Nodup:=by
 rw[KN];split
 ·exact h
 ·rename_i aM;have:es.lookup key=none:=by cases l:es.lookup key with | none=>rfl | some u=>rw[l] at aM; simp at aM
  rw[List.nodup_append];refine⟨h,by simp,?_⟩;intro a Y e ao l;simp at ao; subst ao; subst l;exact HL.1 this Y
theorem Q9{key:Int}:∀ {es:List (Int×Z)},((del key es).map (·.1)).Sublist (es.map (·.1))
 |[]=>.slnil
 |(a,e)::es=>by
  simp only[del];split
  ·exact (List.sublist_cons_self _ _)
  ·exact (Q9 (es:=es)).cons_cons a
theorem Rw{key:Int}{es:List (Int×Z)}(h:(es.map (·.1)).Nodup):((del key es).map (·.1)).Nodup:=h.sublist Q9
theorem HK(key x:Int):∀ es:List (Int×Z),(es.map (·.1)).Nodup→(del key es).lookup x=if x==key then none else es.lookup x
 |[],_=>by simp[del]
 |(a,e)::es,h=>by
  have aM:a∉es.map (·.1):=(List.nodup_cons.1 h).1;have cq:=HK key x es (List.nodup_cons.1 h).2;simp only[del];by_cases g:(key==a)=true
  ·have l:key=a:=by simpa using g
   subst l;simp only[g,if_true,List.lookup];by_cases q:(x==key)=true
   ·have l:x=key:=by simpa using q
    subst l; simp[HL.2 aM]
   ·simp only[Bool.not_eq_true] at q; simp[q]
  ·simp only[Bool.not_eq_true] at g;simp only[g,Bool.false_eq_true,if_false,List.lookup,cq];by_cases q:(x==a)=true
   ·have l:x=a:=by simpa using q
    subst l;have:(x==key)=false:=by simpa using fun l=>by simp[l] at g
    simp[this]
   ·simp only[Bool.not_eq_true] at q; simp[q]
def dh(T:bz Z)(k:IntKind)(r:Nat)(es:List (Int×Z)):bE:=h8 fun aX=>h8 fun c=>dH [lG (sN T k aX es∧qV aX c∧(es.map (·.1)).Nodup),kF r (.map aX c)]
theorem yW{r:Nat}{es:List (Int×Z)}(H:E A (dh T k r es::m) w):∃ aX c,sN T k aX es∧qV aX c∧(es.map (·.1)).Nodup∧E A (kF r (.map aX c)::m) w:=by
 obtain⟨aX,H⟩:=H.ex;obtain⟨c,H⟩:=H.ex;have H:=H.open_;obtain⟨⟨I,ao,R⟩,H⟩:=E.vJ (fs:=sN T k aX es∧qV aX c∧(es.map (·.1)).Nodup) H;exact⟨aX,c,I,ao,R,H⟩
theorem K1{r:Nat}{es:List (Int×Z)}{aX:Array MapEntry}{c:Nat}(I:sN T k aX es)(ao:qV aX c)(R:(es.map (·.1)).Nodup)(H:E A (kF r (.map aX c)::m) w):E A (dh T k r es::m) w:=
 E.mU aX (E.mU c (E.shut (bX:=[lG _,kF r (.map aX c)]) (E.v1 ⟨I,ao,R⟩ H)))
theorem HM{r:Nat}{es:List (Int×Z)}(H:E A (dh T k r es::m) w):(es.map (·.1)).Nodup:=by
 obtain⟨_,_,_,_,h,_⟩:=yW H; exact h
theorem w9{r:Nat}(T:bz Z)(k:IntKind)(H:E A (kF r (.map #[] 0)::m) w):E A (dh T k r []::m) w:=K1 (by simp[sN]) ⟨by simp,by simp⟩ (by simp) H
theorem mw{r:Nat}{es:List (Int×Z)}{key:Int}{ab:Option Z→Prop}{o:Option Nat}(i:Nat)(H:E A m w)(ay:front i m=dh T k r es::bX)(hm:o=some r)(aq:ab (es.lookup key)):ex (iD T k o key w) ab:=by
 obtain⟨aX,c,I,yq,R,H⟩:=yW (ay▸H.front i);subst hm;exact⟨_,⟨es,⟨aX,c,H.get,I,yq⟩,rfl⟩,aq⟩
theorem ab2{r:Nat}{es:List (Int×Z)}{ab:Nat→Prop}{o:Option Nat}(i:Nat)(H:E A m w)(ay:front i m=dh T k r es::bX)(hm:o=some r)(aq:ab es.length):ex (rR o w) ab:=by
 obtain⟨aX,c,I,yq,R,H⟩:=yW (ay▸H.front i);subst hm;have al:es.length=aX.size:=by have:=congrArg List.length I; simpa using this.symm
 exact⟨_,⟨aX,c,H.get,al⟩,aq⟩
theorem aeW{r:Nat}{G:Obj}{aX:Array MapEntry}{c:Nat}(H:E A (kF r G::m) w):E A (kF r (.map aX c)::m) (vR w r aX c):=H.put rfl rfl rfl rfl
theorem sf{r:Nat}{es:List (Int×Z)}{key:Int}{v:Z}{ab:World→Prop}{o:Option Nat}(i:Nat)(H:E A m w)(ay:front i m=dh T k r es::bX)(hm:o=some r)
  (aq:∀ J,E A (dh T k r (eZ key v es)::bX) J→ab J):qt T k o key v w ab:=by
 obtain⟨aX,c,I,yq,R,H⟩:=yW (ay▸H.front i);exact⟨r,es,hm,⟨aX,c,H.get,I,yq⟩,fun uX Jy fG vc=>aq _ (K1 fG vc (EH R) (aeW H))⟩
theorem Rl{r:Nat}{es:List (Int×Z)}{key:Int}{ab:World→Prop}{o:Option Nat}(i:Nat)(H:E A m w)(ay:front i m=dh T k r es::bX)(hm:o=some r)
  (aq:∀ J,E A (dh T k r (del key es)::bX) J→ab J):HN T k o key w ab:=by
 obtain⟨aX,c,I,yq,R,H⟩:=yW (ay▸H.front i);subst hm;exact⟨es,⟨aX,c,H.get,I,yq⟩,fun uX Jy fG vc=>aq _ (K1 fG vc (Rw R) (aeW H))⟩
theorem wrap_i64{x:Int}(ah:-9223372036854775808≤x)(I:x≤9223372036854775807):IntKind.i64.wrap x=x:=by
 rw[IntKind.wrap_i64]; omega
theorem Iv{s r:af}{ar:Nat}{i h o:Int}(H:Sub s ar i h o r):r.len=(h-i).toNat∧r.cap=(o-i).toNat∧(∀ e G,s.a=some ⟨e,G,none⟩→o≠i→r.a=some ⟨e,G+i.toNat*ar,none⟩):=by
 obtain⟨ah,I,R,aK,rfl⟩:=H;refine⟨by simp; omega,by simp; omega,fun e G ao hm=>?_⟩;have:o.toNat≠i.toNat:=by omega
 simp only[this,if_false,ao,Option.map_some,l0]
theorem ot{s:af}{ar:Nat}{i h o:Int}{ab:af→Prop}(ah:0≤i)(I:i≤h)(R:h≤o)(aK:o≤s.cap)(aq:∀ r,Sub s ar i h o r→ab r):ex (Sub s ar i h o) ab:=⟨_,⟨ah,I,R,aK,rfl⟩,aq _ ⟨ah,I,R,aK,rfl⟩⟩
theorem aG0{ar:Nat}{s r:af}{xs:List Z}{h:Int}(al:∀ x,(T.cells x).length=ar)(aH:Sub s ar 0 h s.cap r)(cK:h≤xs.length)(H:E A (row T t ar s xs::m) w):r=⟨s.a,h.toNat,s.cap⟩∧E A (row T t ar r (xs.take h.toNat)::m) w:=by
 obtain⟨ah,I,R,aK,rfl⟩:=aH;have l:(⟨if (s.cap:Int).toNat=(0:Int).toNat then s.a else s.a.map (·.add ((0:Int).toNat*ar)),h.toNat-(0:Int).toNat,(s.cap:Int).toNat-(0:Int).toNat⟩:af)=⟨s.a,h.toNat,s.cap⟩:=by
  have:(fun x:Addr=>x.add 0)=id:=by funext x; simp[Addr.add]
  simp[this]
 refine⟨l,?_⟩;rw[l];rcases oV H with ⟨rfl,rfl,lR⟩ | ⟨e,rest,bD,e4,jr,nI,H⟩
 ·have:h.toNat=0:=by simp at cK; omega
  rw[this]; exact k4 T t ar lR
 ·refine uC (rest:=(xs.drop h.toNat).flatMap T.cells++rest) bD (by simp; omega) (by simp only; omega) ?_ ?_
  ·rw[List.length_append,n_ al,List.length_drop];have l:(s.cap-h.toNat)*ar=(xs.length-h.toNat)*ar+(s.cap-s.len)*ar:=by rw[← Nat.add_mul]; congr 1; omega
   simp only;rw[l]; omega
  ·rw[← List.append_assoc,← List.flatMap_append,List.take_append_drop]; exact H
theorem aet{ar:Nat}{s r:af}{xs:List Z}{i:Int}(al:∀ x,(T.cells x).length=ar)(aH:Sub s ar i s.len s.cap r)(H:E A (row T t ar s xs::m) w):lu T w r (xs.drop i.toNat):=by
 obtain⟨bD,e4,jr⟩:=Iv aH;obtain⟨ah,I,R,aK,aa⟩:=aH;have aM:=gG H;refine⟨by rw[bD,List.length_drop]; omega,?_⟩;rcases oV H with ⟨rfl,rfl,H⟩ | ⟨e,rest,dx,ef,g0,jV,H⟩
 ·have Y:r.a=none:=by
   rw[aa];show (if (fN.cap:Int).toNat=i.toNat then fN.a else fN.a.map (·.add (i.toNat*ar)))=none
   split<;>rfl
  rw[Y]; simp[Gb]
 ·by_cases l:(s.cap:Int)=i
  ·have:xs.drop i.toNat=[]:=List.drop_eq_nil_of_le (by omega);rw[this];cases aKA:r.a with
   |none=>rfl
   |some a=>intro D v aL; simp at aL
  ·rw[jr e 0 dx l];intro D v aL;have ao:=H.get;rw[l0,u2 ao,Nat.zero_add];simp only[List.getElem?_toArray];have ag:(xs.drop i.toNat).flatMap T.cells=(xs.flatMap T.cells).drop (i.toNat*ar):=by
    have:xs.flatMap T.cells=(xs.take i.toNat).flatMap T.cells++(xs.drop i.toNat).flatMap T.cells:=by rw[← List.flatMap_append,List.take_append_drop]
    have pU:((xs.take i.toNat).flatMap T.cells).length=i.toNat*ar:=by rw[n_ al,List.length_take]; congr 1; omega
    rw[this,← pU,List.drop_left]
   rw[ag,List.getElem?_drop] at aL;have dI:=(List.getElem?_eq_some_iff.1 aL).1;rw[List.getElem?_append_left dI]; exact aL
theorem akx{ar av:Nat}{s e:af}{xs new:List Z}{ab:af→World→Prop}(al:∀ x,(T.cells x).length=ar)(H:E A (row T t ar s xs::m) w)(aM:lu T w e new)(U:s.len+new.length≤s.cap)
  (aq:∀ J,E A (row T t ar ⟨s.a,s.len+new.length,s.cap⟩ (xs++new)::m) J→ab ⟨s.a,s.len+new.length,s.cap⟩ J):tO t T ar av s e w ab:=by
 refine⟨new,aM,fun _=>?_,fun O=>absurd U (by omega)⟩;rcases oV H with ⟨rfl,rfl,lR⟩ | ⟨akQ,rest,R,aK,bp,dz,H⟩
 ·have ah:new=[]:=by
   cases new with
   |nil=>rfl
   |cons=>simp[fN] at U
  subst ah;exact aq _ (k4 T t ar lR)
 ·rw[R];rw[R] at aq;simp only[l0,Nat.zero_add];have nf:(xs.flatMap T.cells).length=s.len*ar:=by rw[n_ al,aK]
  have mP:(new.flatMap T.cells).length=new.length*ar:=n_ al _;have uf:new.length*ar≤rest.length:=Nat.le_trans (Nat.mul_le_mul_right ar (by omega)) dz;refine⟨C1 H (by simp[nf]; omega),aq _ ?_⟩;have:=AB (new.flatMap T.cells) (s.len*ar) 0 _ _ H (by simp[nf,mP]; omega)
  refine uC (rest:=rest.drop (new.length*ar)) rfl (by simp; omega) (by simpa using U) (by
   rw[List.length_drop];have l:(s.cap-(s.len+new.length))*ar=(s.cap-s.len)*ar-new.length*ar:=by rw[← Nat.sub_mul]; congr 1; omega
   simp only
   rw[l]; omega) ?_
  have l:jM (xs.flatMap T.cells++rest) (s.len*ar+0) (new.flatMap T.cells)=(xs++new).flatMap T.cells++rest.drop (new.length*ar):=by
   simp only[jM,Nat.add_zero,mP];rw[← nf,List.take_left,List.drop_append];simp
  rw[l] at this;exact this
theorem al4{ar:Nat}{s r:af}{xs:List Z}{z:Z}{o:Int}{ab:World→Prop}(al:∀ x,(T.cells x).length=ar)(aH:Sub s ar s.len o s.cap r)(H:E A (row T t ar s xs::m) w)(aq:∀ J,E A (row T t ar s xs::m) J→ab J):wG T ar z r w ab:=by
 obtain⟨bD,e4,jr⟩:=Iv aH;obtain⟨ah,I,R,aK,aa⟩:=aH;rcases oV H with ⟨rfl,rfl,lR⟩ | ⟨e,rest,dx,ef,g0,jV,hb⟩
 ·simp only[fN] at aa; subst aa; simpa[wG] using aq w H
 ·by_cases l:(s.cap:Int)=s.len
  ·have ah:r.len=0:=by rw[bD]; omega
   unfold wG;split
   ·exact aq w H
   ·rw[ah];refine⟨fun D bT=>absurd bT (by omega),?_⟩;simpa[oS] using aq w H
  ·have Y:=jr e 0 dx l;unfold wG;rw[Y];have nf:(xs.flatMap T.cells).length=s.len*ar:=by rw[n_ al,ef]
   have wU:((List.replicate r.len z).flatMap T.cells).length=r.len*ar:=by rw[n_ al]; simp
   have ll:r.len*ar≤rest.length:=Nat.le_trans (Nat.mul_le_mul_right ar (by rw[bD]; omega)) jV;have hU:((s.len:Int).toNat)=s.len:=by simp
   rw[hU];refine⟨C1 hb (by simp only[List.length_append,nf]; omega),aq _ ?_⟩;have:=AB ((List.replicate r.len z).flatMap T.cells) (0+s.len*ar) 0 _ _ hb (by simp only[List.length_append,nf,wU]; omega);refine uC (rest:=jM rest 0 ((List.replicate r.len z).flatMap T.cells)) dx ef g0 (by rw[aHT _ _ _ (by rw[wU]; omega)]; exact jV) ?_;have DW:jM (xs.flatMap T.cells++rest) (0+s.len*ar+0) ((List.replicate r.len z).flatMap T.cells)=xs.flatMap T.cells++jM rest 0 ((List.replicate r.len z).flatMap T.cells):=by
    simp only[jM,Nat.add_zero,Nat.zero_add,List.take_zero,List.nil_append,wU];rw[← nf,List.take_left,List.drop_append];simp
   rw[DW] at this;exact this
end
end bj
namespace bj
open Go.RowKit
section
variable {A w J:World} {m bX:List bE} {aQ aV:bE} {Z eL:Type} {T:bz Z} {dg:bz eL} {t:TypeId}
theorem vy{bC:Type}{body:bC→World→(bC→World→Prop)→Prop}{s:bC}{w:World}(aZ:bC→World→Prop)(ty:bC→Nat)(ah:aZ s w)
  (h:∀ s w,aZ s w→body s w fun fO J=>aZ fO J∧ty fO<ty s):fh body s w:=⟨aZ,fun s _=>ty s,ah,h⟩
theorem k3{ar:Nat}{s:af}{xs:List Z}{i:Int}(H:E A (row T t ar s xs::m) w)(ah:0≤i)(I:i<xs.length):∃ a,cT s ar i a:=by
 obtain⟨a,h,_⟩:=abt (k:=fun _=>True) H ah I fun _ _=>trivial;exact⟨a,h⟩
theorem ze{ar:Nat}{s:af}{xs:List Z}{i:Int}(H:E A (ro T s xs::m) w)(ah:0≤i)(I:i<xs.length):∃ a,cT s ar i a:=by
 obtain⟨a,h,_⟩:=aBL (k:=fun _=>True) H ah I fun _ _=>trivial;exact⟨a,h⟩
theorem aeE{ar:Nat}{s:af}{xs:List Z}{i:Int}{a:Addr}(Y:cT s ar i a)(H:E A (row T t ar s xs::m) w):a.spot=none:=by
 obtain⟨c,U,ah,I,rfl⟩:=Y;rcases oV H with ⟨rfl,rfl,H⟩ | ⟨e,rest,R,aK,bp,dz,H⟩
 ·cases U
 ·rw[R] at U; injection U with U; subst U; rw[l0]
theorem SG{ar:Nat}{s:af}{xs:List Z}{i:Int}{a:Addr}(Y:cT s ar i a)(H:E A (ro T s xs::m) w):a.spot=none:=by
 obtain⟨c,U,ah,I,rfl⟩:=Y;obtain⟨aZ,a_,R,aK | ⟨e,G,aX,tr,nH,bp,dz,iG⟩⟩:=H.pP
 ·rw[aK] at R; simp at R; omega
 ·rw[bp] at U; injection U with U; subst U; rw[l0]
theorem ql{ar G:Nat}{s:af}{xs:List Z}{i:Int}{a:Addr}{x:Z}{S:eL}(al:∀ x,(T.cells x).length=ar)(Y:cT s ar i a)(F:xs[i.toNat]?=some x)(aH:at_ (T.cells x) G (dg.cells S).length=dg.cells S)
  (H:E A (row T t ar s xs::m) w):L dg (a.add G) w S:=Og (my al Y F H) (aeE Y H) aH
theorem J0{ar G:Nat}{s:af}{xs:List Z}{i:Int}{a:Addr}{x:Z}{S:eL}(al:∀ x,(T.cells x).length=ar)(Y:cT s ar i a)(F:xs[i.toNat]?=some x)(aH:at_ (T.cells x) G (dg.cells S).length=dg.cells S)
  (H:E A (ro T s xs::m) w):L dg (a.add G) w S:=Og (AH al Y F H) (SG Y H) aH
def old(A:World):bE:=r1 (fun aZ=>cD.le (fun e=>A.heap[e]?) aZ) (fun h k=>cD.le_trans k h)
theorem E.start(A:World):E A [old A] A:=
 ⟨rfl,rfl,rfl,Nat.le_refl _,fun e=>A.heap[e]?,fun _=>none,fun _=>.inr rfl,fun _ _ h=>h,fun _ _ h=>(by cases h),
  fun _=>none,fun _=>none,fun _=>.inl rfl,fun _ _ h=>(by cases h),fun _ _ h=>(by cases h),cD.le_refl _,trivial⟩
theorem E.below(H:E A (old A::m) w):Below A.heap.size A w:=
 ⟨H.os,H.tape,H.output,H.size,fun k aq=>by
  obtain⟨aZ,a_,ll⟩:=E.pP (o:=fun h k=>cD.le_trans k h) H;have l:A.heap[k]?=some (A.heap[k]'aq):=Array.getElem?_eq_getElem aq;rw[l]
  exact a_ _ _ (ll _ _ l)⟩
theorem tP(bd:List Value):at_ bd 0 bd.length=bd:=by simp[at_]
theorem aHQ{bd xs:List Value}(h:bd.length=xs.length):jM bd 0 xs=xs:=by simp[jM,← h]
theorem ez{e:Nat}{x:Z}{k:Z→Prop}(i:Nat)(H:E A m w)(ay:front i m=aJ e (T.cells x) t::bX)(aq:k x):ex (L T ⟨e,0,none⟩ w) k:=ak i H ay rfl (tP _) aq
theorem de{e n:Nat}{x S:Z}{k:World→Prop}(al:∀ x,(T.cells x).length=n)(i:Nat)(H:E A m w)(ay:front i m=aJ e (T.cells x) t::bX)(aq:∀ J,E A (aJ e (T.cells S) t::bX) J→k J):bi T ⟨e,0,none⟩ S w k:=
 dK i H ay rfl (by rw[al,al]; omega) fun J H=>aq J (by rw[aHQ (by rw[al,al])] at H; exact H)
end
end bj
namespace bj
open Go.RowKit Go.ChangeShapes Go.WideShapes Go.Deep
section
variable {H:Type} {enc:TypeId×Value→H} {P:Program} {A:World} {base:Nat} {spare:Nat→Bool} {held:Bool} {Z:Type}
def qX(enc:TypeId×Value→H)(P:Program)(A:World)(base:Nat)(spare:Nat→Bool)(held:Bool)(t:TypeId)(T:bz Z)(az:Z→Prop):Prop:=
 ∀ oL bd x,DataW.trod enc P A base spare held oL t bd=some x→∃ S:Z,bd=T.cells S∧az S
theorem acJ{t:TypeId}{k:IntKind}(aT:P.underlying t=some (.int k)):qX enc P A base spare held t (B k) fun n=>k.min≤n∧n≤k.max:=by
 intro oL bd x h;obtain⟨n,rfl,_,hw⟩:=DataW.trod_int aT h;refine⟨n,rfl,?_⟩;simpa[Lit.wf] using hw
theorem aEv{t:TypeId}(aT:P.underlying t=some (.float .f64)):qX enc P A base spare held t g4 fun e=>e<18446744073709551616:=by
 intro oL bd x h;cases oL with
 |zero=>simp[DataW.trod] at h
 |succ n=>
  unfold DataW.trod at h;rw[aT] at h;split at h<;>try (simp_all; done)
  have aq:some (TypeDesc.float FloatKind.f64)=some (TypeDesc.float _):=‹_›;cases aq;split at h
  ·rename_i U;obtain⟨rfl,hw⟩:=U;exact⟨_,rfl,by simpa[Lit.wf] using hw⟩
  ·cases h
theorem aoq{T:bz Z}{ar:Nat}(al:∀ x,(T.cells x).length=ar):∀ (xs:List Z) (D:Nat) (v:Value),(xs.flatMap T.cells)[D]?=some v→∃ i k x,D=i*ar+k∧k<ar∧xs[i]?=some x∧(T.cells x)[k]?=some v:=by
 intro xs;induction xs with
 |nil=>intro D v h; simp at h
 |cons x xs cq=>
  intro D v h;rw[List.flatMap_cons] at h;by_cases bT:D<ar
  ·rw[List.getElem?_append_left (by rw[al]; exact bT)] at h;exact⟨0,D,x,by omega,bT,rfl,h⟩
  ·rw[List.getElem?_append_right (by rw[al]; omega),al] at h;obtain⟨i,k,S,l,aq,aB,aL⟩:=cq _ _ h;refine⟨i+1,k,S,?_,aq,aB,aL⟩;rw[Nat.add_mul,Nat.one_mul]; omega
theorem As{n:Nat}{p:Nat→Z→Prop}(h:∀ i,i<n→∃ x,p i x):∃ xs:List Z,xs.length=n∧∀ i x,xs[i]?=some x→p i x:=by
 induction n with
 |zero=>exact⟨[],rfl,fun i x h=>(by simp at h)⟩
 |succ n cq=>
  obtain⟨xs,I,R⟩:=cq fun i ay=>h i (by omega);obtain⟨x,F⟩:=h n (by omega);refine⟨xs++[x],by simp[I],fun i S aB=>?_⟩;by_cases ay:i<n
  ·rw[List.getElem?_append_left (by omega)] at aB; exact R i S aB
  ·rw[List.getElem?_append_right (by omega)] at aB;have:i=n:=by
    rcases Nat.lt_or_ge (i-xs.length) 1 with h | h
    ·omega
    ·rw[List.getElem?_eq_none (by simpa using h)] at aB; cases aB
   subst this;simp[I] at aB; subst aB; exact F
theorem alr{w:World}{e G:Nat}{v:Value}(h:w.cell? ⟨e,G,none⟩=some v):∃ aX t nH,w.heap[e]?=some (.cells aX t nH)∧aX[G]?=some v:=by
 unfold World.cell? at h;split at h
 ·rename_i aX t nH ao; exact⟨aX,t,nH,ao,by simpa using h⟩
 ·simp at h
theorem RQ{t l:TypeId}{T:bz Z}{az:Z→Prop}{ar:Nat}(aT:P.underlying t=some (.slice l))(U:P.cellsOf l=ar)(bN:0<ar)(al:∀ x,(T.cells x).length=ar)(Pq:qX enc P A base spare held l T az) :
  qX enc P A base spare held t X fun s=>(s.len≤s.cap∧s.cap≤9223372036854775807)∧∃ xs,(∀ x∈xs,az x)∧dd T s xs fun e=>A.heap[e]?:=by
 intro oL bd x h;rcases open_slice aT h with ⟨rfl,_⟩ | ⟨a,len,cap,o,n,K,bP,rfl,ao,I,R,hm,_,F⟩
 ·exact⟨⟨none,0,0⟩,rfl,⟨Nat.le_refl _,Nat.zero_le _⟩,[],(fun _ h=>by cases h),rfl,.inl rfl⟩
 ·refine⟨⟨some a,len,cap⟩,rfl,⟨I,Nat.le_trans R (Nat.le_of_ble_eq_true rfl)⟩,?_⟩;have aKu:len≤o:=by rw[hm]; split<;>omega
  have each:∀ i,i<len→∃ S:Z,az S∧∀ k v,(T.cells S)[k]?=some v→A.cell? (a.add (i*ar+k))=some v:=by
   intro i ay;obtain⟨amn,bD,e4⟩:=F i (by omega);obtain⟨S,rfl,aB⟩:=Pq _ _ _ e4;rw[U] at bD;obtain⟨_,_,jr⟩:=World.cells?_some bD;refine⟨S,aB,fun k v aL=>?_⟩;have aq:=(List.getElem?_eq_some_iff.1 aL).1;rw[al] at aq;have:=jr k aq;rw[aL] at this;rw[add_add] at this;exact this
  obtain⟨xs,hi,rs⟩:=As each;refine⟨xs,?_,hi,?_⟩
  ·intro x F;obtain⟨i,ay,l⟩:=List.getElem_of_mem F;exact (rs i x (by rw[List.getElem?_eq_getElem ay,l])).1
  ·cases xs with
   |nil=>exact .inl rfl
   |cons bH aLy=>
    right;obtain⟨_,g⟩:=rs 0 bH rfl;obtain⟨e,G,vT⟩:=a;have dI:0<(T.cells bH).length:=by rw[al]; exact bN
    have cX:=g 0 _ (List.getElem?_eq_getElem dI);have lD:vT=none:=by simpa[Addr.add] using World.cell?_spot cX
    subst lD;rw[l0] at cX;obtain⟨aX,tr,nH,ao,_⟩:=alr cX;refine⟨e,G,aX,tr,nH,rfl,ao,fun D v bT=>?_⟩;obtain⟨i,k,S,rfl,aq,aB,aL⟩:=aoq al _ _ _ bT;have:=(rs i S aB).2 k v aL;rw[l0] at this;rw[u2 ao] at this;exact this
theorem RP{t:TypeId}{iF:Array Field}{n:Nat}{C:Z→List Value}{az:Z→Prop}(aT:P.underlying t=some (.struct iF))(U:P.cellsOf t=n)
  (h:∀ bd:List Value,bd.length=n→(∀ (i off hF ar:Nat),(∃ f,iF[i]?=some f∧f.offset=off∧f.type=hF)→P.cellsOf hF=ar→∃ o x,DataW.trod enc P A base spare held o hF ((bd.drop off).take ar)=some x)→∃ S,bd=C S∧az S) :
  qX enc P A base spare held t (ig C) az:=by
 intro oL bd x F;obtain⟨xs,o,_,_,al,Aj,am⟩:=DataW.trod_struct aT F;refine h bd (al.trans U) ?_;rintro i off hF ar ⟨f,vg,rfl,rfl⟩ rfl;have:=am i f vg;have ay:i<iF.size:=(Array.getElem?_eq_some_iff.1 vg).1;exact⟨o,xs[i]'(by omega),by rw[this]; exact List.getElem?_eq_getElem _⟩
theorem rb{bd a e:List Value}{G k:Nat}(h:(bd.drop G).take k=a)(R:bd.drop (G+k)=e):bd.drop G=a++e:=by
 rw[← h,← R,← List.drop_drop]; exact (List.take_append_drop _ _).symm
theorem OQ{bd:List Value}{n:Nat}(h:bd.length=n):bd.drop n=[]:=List.drop_eq_nil_of_le (by omega)
theorem Jz{Z:Type}{T:bz Z}{f:FuncId}{args:List Value}{w:World}{k:Z→World→Prop}(h:M P f args T w k):Calls P f args.toArray w fun l J=>∃ x,l=.returned (T.enc x)∧k x J:=
 h.mono fun l J h=>by
  cases l with
  |returned v=>obtain⟨x,rfl,h⟩:=h; exact⟨x,rfl,h⟩
  |_=>exact h.elim
theorem wD{t:TypeId}{T:bz Z}{az:Z→Prop}{v:Value}{d:DataW H}{eT:List MemPlace}(ua:qX enc P A base spare held t T az)(h:DataW.Trod enc P A base spare held t v d eT):∃ S,v.cells.toList=T.cells S∧az S:=by
 obtain⟨o,hm⟩:=h;exact ua _ _ _ hm
theorem H2{v:Value}{T:bz Z}{S:Z}(h:v.cells.toList=T.cells S)(I:v.cells=#[v])(R:T.cells S=[T.enc S]):v=T.enc S:=by
 rw[I,R] at h; simpa using h
theorem Gj{bd:Array Value}{C:Z→List Value}{S:Z}(h:(Value.agg bd).cells.toList=C S):Value.agg bd=.agg (C S).toArray:=by
 have:bd.toList=C S:=h;rw[← this]
end
end bj
namespace bj
open Go.RowKit
section
variable {A w J:World} {m:List bE}
theorem E.grown(H:E A m w)(ao:Below w.heap.size w J):E A m J:=by
 obtain⟨aZ,h,a,bx,bK,al⟩:=H.mem;have old:∀ e G,w.heap[e]?=some G→J.heap[e]?=some G:=fun e G l=>by
  rw[ao.block e (Array.getElem?_eq_some_iff.1 l).1]; exact l
 exact⟨ao.os.trans H.os,ao.tape.trans H.tape,ao.output.trans H.output,Nat.le_trans H.size ao.size,aZ,h,a,fun e G l=>old e G (bx e G l),fun e G l=>old e G (bK e G l),al⟩
theorem E.made{g:Nat}{G:Obj}(H:E A m w)(ao:Below w.heap.size w J)(O:w.heap.size≤g)(aj:J.heap[g]?=some G):E A (kF g G::m) J:=by
 have I_:=H.grown ao;obtain⟨aZ,h,a,bx,bK,al⟩:=H.mem;have a_:aZ g=none:=by
  cases l:aZ g with
  |none=>rfl
  |some u=>have:=(Array.getElem?_eq_some_iff.1 (bx _ _ l)).1; omega
 have cK:h g=none:=by
  cases l:h g with
  |none=>rfl
  |some u=>have:=(Array.getElem?_eq_some_iff.1 (bK _ _ l)).1; omega
 have old:∀ e G,w.heap[e]?=some G→J.heap[e]?=some G:=fun e G l=>by
  rw[ao.block e (Array.getElem?_eq_some_iff.1 l).1]; exact l
 refine⟨I_.os,I_.tape,I_.output,I_.size,aZ,fun x=>if x=g then some G else h x,?_,fun e G l=>old e G (bx e G l),?_,fun x=>if x=g then some G else none,h,?_,?_,?_,?_,al⟩
 ·intro x;by_cases l:x=g
  ·subst l; exact .inl a_
  ·simp only[l,if_false]; exact a x
 ·intro x v aL;by_cases l:x=g
  ·subst l; simp at aL; subst aL; exact aj
  ·simp only[l,if_false] at aL; exact old _ _ (bK x v aL)
 ·intro x;by_cases l:x=g
  ·right; rw[l]; exact cK
  ·left; simp[l]
 ·intro x v aL;by_cases l:x=g<;>simp[l] at aL ⊢; exact aL
 ·intro x v aL;have:x≠g:=by intro l; rw[l,cK] at aL; cases aL
  simp[this,aL]
 ·show (fun x=>if x=g then some G else none) g=some G
  simp
theorem E.ownsRow{Z:Type}{T:bz Z}{l:TypeId}{ar n:Nat}{v:Value}{xs:List Z}(al:∀ x,(T.cells x).length=ar)(aM:n=xs.length)(H:E A m w)(ao:Below w.heap.size w J)
  (aj:J.ownsRow w.heap.size l ar v n (xs.flatMap T.cells)):∃ s:af,v=X.enc s∧E A (row T l ar s xs::m) J:=by
 obtain⟨hi,⟨rfl,ah⟩ | ⟨g,cap,j7,rfl,O,cK,I,R,aK,bp⟩⟩:=aj
 ·have:xs=[]:=List.eq_nil_of_length_eq_zero (by omega);subst this;exact⟨fN,rfl,k4 T l ar (H.grown ao)⟩
 ·refine⟨⟨some ⟨g,0,none⟩,n,cap⟩,rfl,?_⟩;refine uC (rest:=j7.toList.drop (n*ar)) rfl aM I ?_ ?_
  ·simp only[List.length_drop,Array.length_toList,aK,Nat.sub_mul];exact Nat.le_refl _
  ·have:=H.made ao O cK;have aS:xs.flatMap T.cells++j7.toList.drop (n*ar)=j7.toList:=by rw[← bp,List.take_append_drop]
   rw[aS];simpa[aJ] using this
end
section
variable {A w J:World} {m bX:List bE} {aQ aV:bE} {Z eL:Type} {T:bz Z} {dg:bz eL} {fs v_:cD→Prop}
def ca(m:List bE)(fs:cD→Prop):Prop:=∀ aZ h,iP m aZ h→fs aZ
theorem ca.here{o:∀ {aZ ho:cD},cD.le aZ ho→fs aZ→fs ho}:ca (r1 fs o::m) fs:=fun _ _ ⟨_,_,_,_,_,Y,_⟩=>Y
theorem ca.tail(k:ca m fs):ca (aQ::m) fs:=fun aZ _ ⟨_,R,_,_,_,_,al⟩=>k aZ R al
theorem ca.imp(k:ca m fs)(h:∀ aZ,fs aZ→v_ aZ):ca m v_:=fun aZ q al=>h aZ (k aZ q al)
theorem ca.mo(k:ca m fs):∀ bX:List bE,ca (bX++m) fs
 |[]=>k
 |_::bX=>(ca.mo k bX).tail
theorem ca.and(k:ca m fs)(gf:ca m v_):ca m fun aZ=>fs aZ∧v_ aZ:=fun aZ q al=>⟨k aZ q al,gf aZ q al⟩
theorem E.Ao{o:∀ {aZ ho:cD},cD.le aZ ho→fs aZ→fs ho}(k:ca m fs)(H:E A m w):E A (r1 fs o::m) w:=
 H.imp fun aZ h al=>⟨fun _=>none,h,fun _=>.inl rfl,fun _ _ h=>(by cases h),cD.le_refl _,k aZ h al,al⟩
theorem ca.pP(k:ca m fs)(H:E A m w):∃ aZ:cD,(∀ e G,aZ e=some G→w.heap[e]?=some G)∧fs aZ:=by
 obtain⟨aZ,h,a,e,c,al⟩:=H.mem;exact⟨aZ,e,k aZ h al⟩
theorem E.ro{s:af}{xs:List Z}(k:ca m (dd T s xs))(H:E A m w):E A (ro T s xs::m) w:=H.Ao (o:=dd.mono) k
theorem ca.len{s:af}{xs:List Z}(k:ca m (dd T s xs))(H:E A m w):s.len=xs.length:=E0 (H.ro k)
theorem ca.iH{ar:Nat}{s:af}{xs:List Z}{i:Int}(k:ca m (dd T s xs))(H:E A m w)(ah:0≤i)(I:i<xs.length):∃ a,cT s ar i a:=ze (H.ro k) ah I
theorem ca.rd{ar:Nat}{s:af}{xs:List Z}{i:Int}{a:Addr}{x:Z}(k:ca m (dd T s xs))(al:∀ x,(T.cells x).length=ar)(Y:cT s ar i a)(F:xs[i.toNat]?=some x)(H:E A m w):o6 w a (T.cells x):=AH al Y F (H.ro k)
theorem ca.nd{ar G:Nat}{s:af}{xs:List Z}{i:Int}{a:Addr}{x:Z}{S:eL}(k:ca m (dd T s xs))(al:∀ x,(T.cells x).length=ar)(Y:cT s ar i a)(F:xs[i.toNat]?=some x)(aH:at_ (T.cells x) G (dg.cells S).length=dg.cells S)
  (H:E A m w):L dg (a.add G) w S:=J0 al Y F aH (H.ro k)
theorem ca.CM{s:af}{xs:List Z}(k:ca m (dd T s xs))(H:E A m w):lu T w s xs:=Xn (H.ro k)
theorem dd.nil:dd T fN []=fun _=>True:=by funext aZ; simp[dd,fN]
theorem ca.nil:ca m (dd T fN []):=fun _ _ _=>⟨rfl,.inl rfl⟩
theorem ca.below(k:ca m fun aZ=>cD.le (fun e=>A.heap[e]?) aZ)(H:E A m w):Below A.heap.size A w:=E.below (H.Ao (o:=fun h k=>cD.le_trans k h) k)
theorem ca.old{s:af}{xs:List Z}(k:ca m fun aZ=>cD.le (fun e=>A.heap[e]?) aZ)(h:dd T s xs fun e=>A.heap[e]?):ca m (dd T s xs):=k.imp fun _ a_=>dd.mono a_ h
end
section
variable {A w J:World} {m bX:List bE} {aQ aV:bE} {Z eL:Type} {T:bz Z} {dg:bz eL} {t:TypeId} {fs v_:cD→Prop}
theorem E1{ar:Nat}{s:af}{xs:List Z}(H:E A (row T t ar s xs::m) w):s.len≤s.cap:=by
 rcases oV H with ⟨rfl,rfl,_⟩ | ⟨e,rest,_,_,h,_⟩
 ·exact Nat.le_refl _
 ·exact h
theorem dd.sub{ar:Nat}{s r:af}{xs:List Z}{i h o:Int}{aZ:cD}(al:∀ x,(T.cells x).length=ar)(aH:Sub s ar i h o r)(cK:h≤xs.length)(k:dd T s xs aZ):dd T r ((xs.take h.toNat).drop i.toNat) aZ:=by
 obtain⟨bD,e4,jr⟩:=Iv aH;obtain⟨ah,I,R,aK,_⟩:=aH;have hi:((xs.take h.toNat).drop i.toNat).length=(h-i).toNat:=by rw[List.length_drop,List.length_take]; omega
 refine⟨by rw[hi,bD],?_⟩;by_cases l:o=i
 ·left;exact List.eq_nil_of_length_eq_zero (by rw[hi]; omega)
 ·rcases k.2 with rfl | ⟨e,G,aX,tr,nH,dx,ef,g0⟩
  ·left; simp
  ·right;refine⟨e,G+i.toNat*ar,aX,tr,nH,jr e G dx l,ef,fun D v aL=>?_⟩;have bb:xs.flatMap T.cells=(xs.take i.toNat).flatMap T.cells++(((xs.take h.toNat).drop i.toNat).flatMap T.cells++(xs.drop h.toNat).flatMap T.cells):=by
    have dn:xs.take i.toNat=(xs.take h.toNat).take i.toNat:=by rw[List.take_take,Nat.min_eq_left (by omega)]
    rw[dn,← List.append_assoc,← List.flatMap_append,List.take_append_drop,← List.flatMap_append,List.take_append_drop]
   have nb:((xs.take i.toNat).flatMap T.cells).length=i.toNat*ar:=by rw[n_ al,List.length_take]; congr 1; omega
   rw[Nat.add_assoc];refine g0 (i.toNat*ar+D) v ?_;rw[bb,← nb,List.getElem?_append_right (by omega),Nat.add_sub_cancel_left];rw[List.getElem?_append_left (List.getElem?_eq_some_iff.1 aL).1]; exact aL
theorem ca.sub{ar:Nat}{s r:af}{xs:List Z}{i h o:Int}(k:ca m (dd T s xs))(al:∀ x,(T.cells x).length=ar)(aH:Sub s ar i h o r)(cK:h≤xs.length):ca m (dd T r ((xs.take h.toNat).drop i.toNat)):=k.imp fun _=>dd.sub al aH cK
theorem SH{ar:Nat}{s r:af}{xs:List Z}{h:Int}(al:∀ x,(T.cells x).length=ar)(aH:Sub s ar 0 h h r)(cK:h≤xs.length)(H:E A (row T t ar s xs::m) w):r=⟨s.a,h.toNat,h.toNat⟩∧E A (row T t ar r (xs.take h.toNat)::m) w:=by
 obtain⟨ah,I,R,aK,rfl⟩:=aH;have l:(⟨if h.toNat=(0:Int).toNat then s.a else s.a.map (·.add ((0:Int).toNat*ar)),h.toNat-(0:Int).toNat,h.toNat-(0:Int).toNat⟩:af)=⟨s.a,h.toNat,h.toNat⟩:=by
  have:(fun x:Addr=>x.add 0)=id:=by funext x; simp[Addr.add]
  simp[this]
 refine⟨l,?_⟩;rw[l];rcases oV H with ⟨rfl,rfl,lR⟩ | ⟨e,rest,bD,e4,jr,nI,H⟩
 ·have:h.toNat=0:=by simp at cK; omega
  rw[this]; exact k4 T t ar lR
 ·refine uC (rest:=(xs.drop h.toNat).flatMap T.cells++rest) bD (by simp; omega) (Nat.le_refl _) (by simp) ?_;rw[← List.append_assoc,← List.flatMap_append,List.take_append_drop]; exact H
end
end bj
namespace bj
open Go.RowKit Go.ChangeMaps
section
variable {A w J:World} {m bX:List bE} {aQ aV:bE} {Z eL:Type} {T:bz Z} {dg:bz eL} {t:TypeId} {fs v_:cD→Prop} {k:IntKind}
theorem aCf{p:Nat→Prop}:∀ n,p n→∃ o,o≤n∧p o∧∀ D,p D→o≤D:=by
 intro n;induction n using Nat.strongRecOn with
 |_ n cq=>
  intro h;by_cases c:∃ D,D<n∧p D
  ·obtain⟨D,I,R⟩:=c;obtain⟨o,aK,bp,dz⟩:=cq D I R;exact⟨o,by omega,bp,dz⟩
  ·exact⟨n,Nat.le_refl n,h,fun D bT=>Nat.le_of_not_lt fun dI=>c ⟨D,dI,bT⟩⟩
theorem EA{bC:Type}{body:bC→World→(bC→World→Prop)→Prop}{s:bC}{w:World}(aZ:Nat→bC→World→Prop)(n:Nat)(ah:aZ n s w)
  (h:∀ n s w,aZ n s w→∀ ab,(∀ o fO J,o<n→aZ o fO J→ab fO J)→body s w ab):fh body s w:=by
 classical
 have pick:∀ s w,∃ o,(∃ n,aZ n s w)→aZ o s w∧∀ D,aZ D s w→o≤D:=by
  intro s w;by_cases c:∃ n,aZ n s w
  ·obtain⟨n,aM⟩:=c;obtain⟨o,_,I,R⟩:=aCf (p:=fun n=>aZ n s w) n aM;exact⟨o,fun _=>⟨I,R⟩⟩
  ·exact⟨0,fun U=>absurd U c⟩
 refine⟨fun s w=>∃ n,aZ n s w,fun s w=>(pick s w).choose,⟨n,ah⟩,fun s w a_=>?_⟩;obtain⟨I,R⟩:=(pick s w).choose_spec a_;refine h _ s w I _ fun o fO J hm D7=>⟨⟨o,D7⟩,?_⟩
 exact Nat.lt_of_le_of_lt (((pick fO J).choose_spec ⟨o,D7⟩).2 o D7) hm
structure Way{Z:Type}(T:bz Z)(k:IntKind)(aX:Array MapEntry)(c:Nat)(es:List (Int×Z))(left:List (Int×Z))(j7:Option (Int×Z))(ie:Nat)(seen:Array Nat)(cb:Nat):Prop where
 ja:sN T k aX es
 born:qV aX c
 dup:(es.map (·.1)).Nodup
 aaB:∀ x∈aX.toList,x.born<ie
 le:ie≤cb
 abP:ie≤c
 G8:(leftOf aX seen).toList.map (fun l=>(l.key,l.val))=left.map fun p=>(.int k p.1,T.enc p.2)
 abO:(left.map (·.1)).Nodup
 sub:∀ p∈left,p∈es
 apA:∀ p,j7=some p→cb=c∧∃ l∈aX.toList,∃ s,seen=Array.push s (MapEntry.born l)∧l.key=.int k p.1∧l.val=T.enc p.2
def rH(T:bz Z)(k:IntKind)(r it:Nat)(es left:List (Int×Z))(j7:Option (Int×Z)):bE:=
 h8 fun aX=>h8 fun c=>h8 fun ie=>h8 fun seen=>h8 fun cb=>dH [lG (Way T k aX c es left j7 ie seen cb),kF r (.map aX c),kF it (.mapIter (some r) ie seen cb)]
theorem Sv{r it:Nat}{es left:List (Int×Z)}{j7:Option (Int×Z)}(H:E A (rH T k r it es left j7::m) w):∃ aX c ie seen cb,Way T k aX c es left j7 ie seen cb∧E A (kF r (.map aX c)::kF it (.mapIter (some r) ie seen cb)::m) w:=by
 obtain⟨aX,H⟩:=H.ex;obtain⟨c,H⟩:=H.ex;obtain⟨ie,H⟩:=H.ex;obtain⟨seen,H⟩:=H.ex;obtain⟨cb,H⟩:=H.ex;have H:=H.open_;obtain⟨h,H⟩:=E.vJ (fs:=Way T k aX c es left j7 ie seen cb) H;exact⟨aX,c,ie,seen,cb,h,H⟩
theorem aem{r it:Nat}{es left:List (Int×Z)}{j7:Option (Int×Z)}{aX:Array MapEntry}{c ie cb:Nat}{seen:Array Nat}(h:Way T k aX c es left j7 ie seen cb)(H:E A (kF r (.map aX c)::kF it (.mapIter (some r) ie seen cb)::m) w):E A (rH T k r it es left j7::m) w:=
 E.mU aX (E.mU c (E.mU ie (E.mU seen (E.mU cb (E.shut (bX:=[lG _,kF r (.map aX c),kF it (.mapIter (some r) ie seen cb)]) (E.v1 h H))))))
theorem Ih{r it:Nat}{es left:List (Int×Z)}{j7:Option (Int×Z)}(H:E A (rH T k r it es left j7::m) w):E A (dh T k r es::m) w:=by
 obtain⟨aX,c,ie,seen,cb,h,H⟩:=Sv H;exact K1 h.ja h.born h.dup ((H.front 1).drop)
theorem aCg(aX:Array MapEntry):leftOf aX #[]=aX:=by
 unfold leftOf;exact Array.filter_eq_self.2 fun x F=>by simp
theorem SF{r:Nat}{es:List (Int×Z)}{ab:Addr→World→Prop}{o:Option Nat}(i:Nat)(H:E A m w)(ay:front i m=dh T k r es::bX)(hm:o=some r)
  (aq:∀ it J,E A (rH T k r it es es none::bX) J→ab ⟨it,0,none⟩ J):Ik o w ab:=by
 obtain⟨aX,c,I,yq,R,H⟩:=yW (ay▸H.front i);subst hm;refine⟨aX,c,H.get,aq _ _ (aem ⟨I,yq,R,yq.1,Nat.le_refl c,Nat.le_refl c,by rw[aCg]; exact I,R,fun p aF=>aF,fun p aF=>by cases aF⟩ ?_)⟩;exact (H.alloc _).front 1
theorem aHp{r:Nat}{G u:Obj}(H:E A (kF r G::m) w):E A (kF r u::m) (setBlock w r u):=H.put rfl rfl rfl rfl
theorem aCh(aX:Array MapEntry)(seen:Array Nat)(e:Nat):(leftOf aX (seen.push e)).toList=(leftOf aX seen).toList.filter fun x=>x.born != e:=by
 unfold leftOf;simp only[Array.toList_filter,List.filter_filter];refine List.filter_congr fun x _=>?_;simp only[Array.contains_push,Bool.not_or];rw[Bool.and_comm]; rfl
theorem La{IS aJT:Type}{g:IS→aJT}:∀ {N:List IS},(N.map g).Nodup→∀ x∈N,∀ S∈N,g x=g S→x=S
 |[],_,x,F,_,_,_=>by cases F
 |z::N,h,x,F,S,aB,l=>by
  have fG:=List.nodup_cons.1 h;rcases List.mem_cons.1 F with wT | wT
  ·rcases List.mem_cons.1 aB with yF | yF
   ·rw[wT,yF]
   ·exact absurd (List.mem_map.2 ⟨S,yF,by rw[← l,wT]⟩) fG.1
  ·rcases List.mem_cons.1 aB with yF | yF
   ·exact absurd (List.mem_map.2 ⟨x,wT,by rw[l,yF]⟩) fG.1
   ·exact La fG.2 x wT S yF l
theorem aCi{aX:Array MapEntry}{seen:Array Nat}{left:List (Int×Z)}{l:MapEntry}{p:Int×Z}(ao:(aX.toList.map (·.born)).Nodup)(ag:(left.map (·.1)).Nodup)(al:(leftOf aX seen).toList.map (fun l=>(l.key,l.val))=left.map fun p=>(.int k p.1,T.enc p.2))
  (he:l∈(leftOf aX seen).toList) (aS:l.key=.int k p.1) :
  (leftOf aX (seen.push l.born)).toList.map (fun l=>(l.key,l.val))=(left.filter fun q=>q.1 != p.1).map fun p=>(.int k p.1,T.enc p.2):=by
 rw[aCh];have B5:(leftOf aX seen).toList.Sublist aX.toList:=by unfold leftOf; rw[Array.toList_filter]; exact List.filter_sublist
 have Z3:((leftOf aX seen).toList.map (·.born)).Nodup:=ao.sublist (B5.map _);generalize (leftOf aX seen).toList=aQ at al he Z3;have r7:aQ.map (·.key)=left.map fun p=>Value.int k p.1:=by
  have:=congrArg (List.map Prod.fst) al;simpa[List.map_map,Function.comp_def] using this
 have aqT:(aQ.map (·.key)).Nodup:=by
  rw[r7];have l:(left.map fun p=>Value.int k p.1)=(left.map (·.1)).map (Value.int k):=by simp
  rw[l];exact List.Pairwise.map _ (fun a e h l=>h (by injection l)) ag
 have I:(aQ.filter fun x=>x.born != l.born)=aQ.filter ((fun aB9:Value×Value=>RowKit.intOf aB9.1 != p.1)∘fun x=>(x.key,x.val)):=by
  refine List.filter_congr fun x F=>?_;have:x.key∈aQ.map (·.key):=List.mem_map.2 ⟨x,F,rfl⟩;rw[r7] at this;obtain⟨q,ba,eq⟩:=List.mem_map.1 this;have bb:RowKit.intOf x.key=q.1:=by rw[← eq]; rfl
  show (x.born != l.born)=(RowKit.intOf x.key != p.1)
  rw[bb,Bool.eq_iff_iff,bne_iff_ne,bne_iff_ne];constructor
  ·intro h Ae;have:x=l:=La aqT x F l he (by rw[← eq,aS,Ae]);exact h (by rw[this])
  ·intro h aps;have:x=l:=La Z3 x F l he aps;rw[this,aS] at eq;injection eq with _ eq
   exact h eq
 rw[I,← List.filter_map,al,List.filter_map];rfl
theorem RC{r it:Nat}{es left:List (Int×Z)}{j7:Option (Int×Z)}{ab:Option (Value×Value)→World→Prop}{a:Addr}(i:Nat)(H:E A m w)(ay:front i m=rH T k r it es left j7::bX)(Y:a=⟨it,0,none⟩)
  (ah:left=[]→E A (rH T k r it es left j7::bX) w→ab none w)
  (I:∀ p∈left,∀ J,E A (rH T k r it es (left.filter fun q=>q.1 != p.1) (some p)::bX) J→ab (some (.int k p.1,T.enc p.2)) J):lm a w ab:=by
 have lR:E A (rH T k r it es left j7::bX) w:=ay▸H.front i;obtain⟨aX,c,ie,seen,cb,h,hb⟩:=Sv lR;have ao:=hb.get;have aa:=(hb.front 1).get;refine⟨it,r,ie,seen,cb,aX,c,Y,aa,ao,h.aaB,h.le,fun bN=>ah ?_ lR,fun l he dL Hl=>?_⟩
 ·have aM:(leftOf aX seen).toList=[]:=by
   apply List.eq_nil_of_length_eq_zero;simpa using bN
  have al:=h.G8;rw[aM] at al;cases G8:left with
  |nil=>rfl
  |cons p q=>rw[G8] at al; cases al
 ·have apN:l∈aX.toList:=by
   unfold leftOf at he;simp at he ⊢;exact he.1
  have tb:(l.key,l.val)∈(leftOf aX seen).toList.map fun l=>(l.key,l.val):=List.mem_map.2 ⟨l,he,rfl⟩;rw[h.G8] at tb;obtain⟨p,aF,Y9⟩:=List.mem_map.1 tb;have aS:l.key=.int k p.1:=(Prod.mk.inj Y9).1.symm;have bb:l.val=T.enc p.2:=(Prod.mk.inj Y9).2.symm;rw[aS,bb];have hn:E A (kF r (.map aX c)::kF it (.mapIter (some r) ie seen cb)::bX) dL:=by
   rcases Hl with rfl | rfl
   ·exact hb
   ·exact hb.drew
  refine I p aF _ (aem (aX:=aX) (c:=c) (ie:=ie) (seen:=seen.push l.born) (cb:=c) ⟨h.ja,h.born,h.dup,h.aaB,h.abP,h.abP,?_,?_,fun q ba=>h.sub q (List.mem_filter.1 ba).1,fun q ba=>?_⟩ ((aHp (hn.front 1)).front 1))
  ·exact aCi h.born.2 h.abO h.G8 he aS
  ·exact h.abO.sublist (List.filter_sublist.map _)
  ·cases ba;exact⟨rfl,l,apN,seen,rfl,aS,bb⟩
theorem O6{r it:Nat}{es left:List (Int×Z)}{p:Int×Z}{ab:Int×Z→Prop}{a:Addr}(i:Nat)(H:E A m w)(ay:front i m=rH T k r it es left (some p)::bX)(Y:a=⟨it,0,none⟩)(aq:ab p):ex (kA T k a w) ab:=by
 have lR:E A (rH T k r it es left (some p)::bX) w:=ay▸H.front i;obtain⟨aX,c,ie,seen,cb,h,hb⟩:=Sv lR;have ao:=hb.get;have aa:=(hb.front 1).get;obtain⟨rfl,l,he,s,rfl,aS,bb⟩:=h.apA p rfl;exact⟨p,⟨it,r,ie,s,aX,cb,l,Y,aa,ao,he,h.born.2,aS,bb⟩,aq⟩
theorem BB{f:eL→bE}{c0 c4:List eL}{l:eL}(H:E A (dH ((c0++l::c4).map f)::m) w):E A (f l::dH ((c0++c4).map f)::m) w:=by
 have H:=H.open_;have aF:((c0++l::c4).map f++m).Perm ((c0++c4).map f++(f l::m)):=by
  simp only[List.map_append,List.map_cons,List.append_assoc,List.cons_append];refine List.Perm.append_left _ ?_;exact (List.perm_middle (l₁:=c4.map f) (a:=f l) (l₂:=m)).symm
 exact (E.shut (H.perm aF)).front 1
theorem wE{f:eL→bE}{c0 c4:List eL}{l:eL}(H:E A (f l::dH ((c0++c4).map f)::m) w):E A (dH ((c0++l::c4).map f)::m) w:=by
 have H:=(H.front 1).open_;have aF:((c0++c4).map f++(f l::m)).Perm ((c0++l::c4).map f++m):=by
  simp only[List.map_append,List.map_cons,List.append_assoc,List.cons_append];refine List.Perm.append_left _ ?_;exact List.perm_middle
 exact E.shut (H.perm aF)
end
end bj
namespace bj
open Go.RowKit
section
variable {A w J:World} {m bX:List bE} {aQ aV:bE} {Z eL:Type} {T:bz Z} {dg:bz eL} {t:TypeId}
theorem HO{ar av:Nat}{n:Int}{z:Z}{ab:af→World→Prop}(ah:0≤n)(I:(av:Int)*n≤281474976710656)(R:n≤9223372036854775807)(H:E A m w)
  (aq:∀ e J,E A (row T t ar ⟨some ⟨e,0,none⟩,n.toNat,n.toNat⟩ (List.replicate n.toNat z)::m) J→ab ⟨some ⟨e,0,none⟩,n.toNat,n.toNat⟩ J):yX t T av z n n w ab:=
 ⟨ah,Int.le_refl _,I,R,aq _ _ (uB (by simp) (H.alloc _))⟩
theorem JH{ar:Nat}{s e:af}{xs new:List Z}{ab:Nat→World→Prop}(al:∀ x,(T.cells x).length=ar)(H:E A (row T t ar s xs::m) w)(aM:lu T w e new)(he:new.length=xs.length)
  (aq:∀ J,E A (row T t ar s new::m) J→ab new.length J):DQ T ar s e w ab:=by
 have aH:=gG H;refine⟨new,by rw[← aM.1,aH]; omega,?_,?_⟩
 ·exact⟨rfl,aM.2⟩
 ·rcases oV H with ⟨rfl,rfl,lR⟩ | ⟨akQ,rest,R,aK,bp,dz,H⟩
  ·have:new=[]:=List.length_eq_zero_iff.1 he;subst this;exact aq _ (k4 T t ar lR)
  ·rw[R];have nf:(xs.flatMap T.cells).length=xs.length*ar:=n_ al _;have mP:(new.flatMap T.cells).length=new.length*ar:=n_ al _;refine⟨C1 H (by simp[nf,he]),aq _ ?_⟩;have:=AB (new.flatMap T.cells) 0 0 _ _ H (by simp[nf,mP,he]);refine uC (rest:=rest) R (by rw[he]; exact aK) bp dz ?_;have l:jM (xs.flatMap T.cells++rest) (0+0) (new.flatMap T.cells)=new.flatMap T.cells++rest:=by
    unfold jM;simp only[Nat.zero_add,Nat.add_zero,List.take_zero,List.nil_append];rw[mP,he,← nf,List.drop_left]
   rw[l] at this;exact this
def dr(ar:Nat)(m:List bE)(T:bz Z)(s:af)(xs:List Z):Prop:=∀ (A:World) (bX:List bE) (w:World),E A (bX++m) w →
 s.len=xs.length∧lu T w s xs∧∀ i:Int,0≤i→i<xs.length→∃ a,cT s ar i a∧a.spot=none∧∀ x,xs[i.toNat]?=some x→o6 w a (T.cells x)
theorem dr.ro{ar:Nat}{s:af}{xs:List Z}(al:∀ x,(T.cells x).length=ar)(k:ca m (dd T s xs)):dr ar m T s xs:=fun A bX w H=>by
 have H:=H.ro (k.mo bX);refine⟨E0 H,Xn H,fun i ah I=>?_⟩;obtain⟨a,Y⟩:=ze (ar:=ar) (i:=i) H ah I;exact⟨a,Y,SG Y H,fun x F=>AH al Y F H⟩
theorem dr.row{ar:Nat}{s:af}{xs:List Z}(al:∀ x,(T.cells x).length=ar)(i:Nat)(ay:front i m=row T t ar s xs::bX):dr ar m T s xs:=fun A c0 w H=>by
 have aF:(c0++m).Perm (bj.row T t ar s xs::(c0++bX)):=((Ph i m).append_left c0).trans (by rw[ay]; exact List.perm_middle);have H:=H.perm aF;refine⟨gG H,Do H,fun i ah I=>?_⟩;obtain⟨a,Y⟩:=k3 (ar:=ar) (i:=i) H ah I;exact⟨a,Y,aeE Y H,fun x F=>my al Y F H⟩
theorem dr.mo{ar:Nat}{s:af}{xs:List Z}(k:dr ar m T s xs)(bX:List bE):dr ar (bX++m) T s xs:=fun A c0 w H=>k A (c0++bX) w (by rw[List.append_assoc]; exact H)
theorem dr.tail{ar:Nat}{s:af}{xs:List Z}(k:dr ar m T s xs):dr ar (aQ::m) T s xs:=k.mo [aQ]
theorem dr.len{ar:Nat}{s:af}{xs:List Z}(k:dr ar m T s xs)(H:E A m w):s.len=xs.length:=(k A [] w H).1
theorem dr.iH{ar:Nat}{s:af}{xs:List Z}{i:Int}(k:dr ar m T s xs)(H:E A m w)(ah:0≤i)(I:i<xs.length):∃ a,cT s ar i a:=by
 obtain⟨a,h,_⟩:=(k A [] w H).2.2 i ah I; exact⟨a,h⟩
theorem abr{ar:Nat}{s:af}{i:Int}{a e:Addr}(h:cT s ar i a)(k:cT s ar i e):a=e:=by
 obtain⟨c,U,_,_,rfl⟩:=h;obtain⟨d,ag,_,_,rfl⟩:=k;rw[U] at ag; injection ag with ag; rw[ag]
theorem dr.rd{ar:Nat}{s:af}{xs:List Z}{i:Int}{a:Addr}{x:Z}(k:dr ar m T s xs)(Y:cT s ar i a)(F:xs[i.toNat]?=some x)(H:E A m w):o6 w a (T.cells x):=by
 have dI:=(List.getElem?_eq_some_iff.1 F).1;have ah:0≤i:=by obtain⟨_,_,h,_⟩:=Y; exact h
 obtain⟨e,ao,_,h⟩:=(k A [] w H).2.2 i ah (by omega);rw[abr Y ao]; exact h x F
theorem dr.nd{ar G:Nat}{s:af}{xs:List Z}{i:Int}{a:Addr}{x:Z}{S:eL}(k:dr ar m T s xs)(Y:cT s ar i a)(F:xs[i.toNat]?=some x)(aH:at_ (T.cells x) G (dg.cells S).length=dg.cells S)
  (H:E A m w):L dg (a.add G) w S:=by
 have dI:=(List.getElem?_eq_some_iff.1 F).1;have ah:0≤i:=by obtain⟨_,_,h,_⟩:=Y; exact h
 obtain⟨e,ao,lD,h⟩:=(k A [] w H).2.2 i ah (by omega);rw[abr Y ao]; exact Og (h x F) lD aH
theorem dr.CM{ar:Nat}{s:af}{xs:List Z}(k:dr ar m T s xs)(H:E A m w):lu T w s xs:=(k A [] w H).2.1
theorem add_add{a:Addr}(h:a.spot=none)(o n:Nat):(a.add o).add n=a.add (o+n):=by
 obtain⟨e,G,s⟩:=a;simp only at h;subst h;rw[l0,l0,l0,Nat.add_assoc]
theorem ca.Zv{ar G Lh:Nat}{s:af}{xs:List Z}{i:Int}{a:Addr}{x:Z}{S:eL}(k:ca m (dd T s xs))(al:∀ x,(T.cells x).length=ar)(Y:cT s ar i a)(F:xs[i.toNat]?=some x)(aH:at_ (T.cells x) (G+Lh) (dg.cells S).length=dg.cells S)
  (H:E A m w):L dg ((a.add G).add Lh) w S:=by
 rw[add_add (SG Y (H.ro k))]; exact k.nd al Y F aH H
end
section
variable {A w J:World} {m bX:List bE} {Z eL:Type} {T:bz Z} {dg:bz eL} {t:TypeId}
theorem aHU{aQ c K z:List Value}{G:Nat}(h:G+z.length≤c.length):jM (aQ++(c++K)) (aQ.length+G) z=aQ++(jM c G z++K):=by
 unfold jM;rw[List.take_length_add_append,Nat.add_assoc,List.drop_length_add_append,List.take_append_of_le_length (by omega),List.drop_append_of_le_length (by omega)];simp
theorem E6{ar G:Nat}{s:af}{xs:List Z}{i:Int}{a:Addr}{x S:Z}{z:eL}{ab:World→Prop}(al:∀ x,(T.cells x).length=ar)(Y:cT s ar i a)(F:xs[i.toNat]?=some x)(aB:jM (T.cells x) G (dg.cells z)=T.cells S)(aj:G+(dg.cells z).length≤ar)
  (H:E A (row T t ar s xs::m) w) (aq:∀ J,E A (row T t ar s (xs.set i.toNat S)::m) J→ab J):bi dg (a.add G) z w ab:=by
 obtain⟨c,U,ah,I,rfl⟩:=Y;rcases oV H with ⟨rfl,rfl,H⟩ | ⟨e,rest,R,aK,bp,dz,H⟩
 ·cases U
 ·rw[R] at U; injection U with U; subst U
  have ay:i.toNat<xs.length:=by omega
  obtain⟨_,rfl⟩:=List.getElem?_eq_some_iff.1 F;have yD:((xs.take i.toNat).flatMap T.cells).length=i.toNat*ar:=by rw[n_ al,List.length_take]; congr 1; omega
  have ag:xs.drop i.toNat=xs[i.toNat]::xs.drop (i.toNat+1):=List.drop_eq_getElem_cons ay;have rs:xs.flatMap T.cells++rest=(xs.take i.toNat).flatMap T.cells++(T.cells xs[i.toNat]++((xs.drop (i.toNat+1)).flatMap T.cells++rest)):=by
   have:xs.flatMap T.cells=(xs.take i.toNat).flatMap T.cells++(xs.drop i.toNat).flatMap T.cells:=by rw[← List.flatMap_append,List.take_append_drop]
   rw[this,ag,List.flatMap_cons]; simp only[List.append_assoc]
  have asC:(xs.set i.toNat S).flatMap T.cells++rest=(xs.take i.toNat).flatMap T.cells++(T.cells S++((xs.drop (i.toNat+1)).flatMap T.cells++rest)):=by
   have:xs.set i.toNat S=xs.take i.toNat++S::xs.drop (i.toNat+1):=by rw[List.set_eq_take_append_cons_drop,if_pos ay]
   rw[this,List.flatMap_append,List.flatMap_cons]; simp only[List.append_assoc]
  rw[l0,l0];rw[rs] at H;have ys:=al xs[i.toNat];have ll:0+i.toNat*ar+G+(dg.cells z).length≤((xs.take i.toNat).flatMap T.cells++(T.cells xs[i.toNat]++((xs.drop (i.toNat+1)).flatMap T.cells++rest))).length:=by
   simp only[List.length_append,yD,ys]; omega
  refine⟨C1 H ll,aq _ ?_⟩;have iG:=AB (dg.cells z) (0+i.toNat*ar+G) 0 _ _ H (by simpa using ll);refine uC R (by simpa using aK) bp dz ?_;rw[asC,← aB];have l:=aHU (aQ:=(xs.take i.toNat).flatMap T.cells) (c:=T.cells xs[i.toNat]) (K:=(xs.drop (i.toNat+1)).flatMap T.cells++rest) (z:=dg.cells z) (G:=G) (by omega);rw[yD] at l;rw[show 0+i.toNat*ar+G+0=i.toNat*ar+G from by omega,l] at iG;exact iG
end
theorem Mt(n:Int):IntKind.u8.wrap n=n%256:=by simp[IntKind.wrap,IntKind.bits,IntKind.signed]
theorem lP(n:Int):IntKind.u64.wrap n=n%18446744073709551616:=by simp[IntKind.wrap,IntKind.bits,IntKind.signed]
theorem qS(n:Int):IntKind.i64.wrap n=(n+9223372036854775808)%18446744073709551616-9223372036854775808:=by
 rw[IntKind.wrap_i64]
theorem k7(n:Int)(ah:0≤n)(I:n<2^64):IntKind.u64.wrap n=n:=by rw[lP]; omega
theorem aJd(n:Int)(ah:0≤n)(I:n<2^8):IntKind.u8.wrap n=n:=by rw[Mt]; omega
theorem aEy(k:IntKind)(D:Nat)(bT:D≤k.bits)(aq:∀ n:Int,0≤n→n<2^D→k.wrap n=n)(i:Nat)
  (S x:Int) (aaP:0≤S) (aB:S<2^i) (aaQ:S<2^D) (aaN:0≤x) (F:x%2^i=0) (aaO:x<2^D):bits .or k S x=S+x:=by
 have h:=bits_join k D bT aq i x S aaN F aaO aaP aB aaQ;obtain⟨a,rfl⟩:=Int.eq_ofNat_of_zero_le aaN;obtain⟨e,rfl⟩:=Int.eq_ofNat_of_zero_le aaP;have Y:a<2^D:=by exact_mod_cast aaO
 have ao:e<2^D:=by exact_mod_cast aaQ
 rw[(bits_nat k D bT aq a e Y ao).2] at h;rw[(bits_nat k D bT aq e a ao Y).2,Nat.or_comm,h];omega
theorem aku{x:Int}(ah:0≤x)(I:x<256):bits .and .u8 x 127=x%128:=bits_mask .u8 8 (by decide) aJd 7 (by decide) x ah I
theorem akt{x:Int}(ah:0≤x)(I:x<18446744073709551616):bits .and .u64 x 1=x%2:=bits_mask .u64 64 (by decide) k7 1 (by decide) x ah I
theorem aEx{x:Int}(ah:0≤x)(I:x<256):bits .or .u8 x 128=128+x%128:=by
 obtain⟨a,rfl⟩:=Int.eq_ofNat_of_zero_le ah;have Y:a<256:=by omega
 have key:∀ a:Fin 256,bits .or .u8 ((a.1:Nat):Int) 128=128+((a.1:Nat):Int)%128:=by decide +kernel
 exact key ⟨a,Y⟩
theorem Li(a:Nat)(h:a<18446744073709551616):(BitVec.ofInt 64 (a:Int)).toNat=a:=by
 rw[BitVec.ofInt_natCast,BitVec.toNat_ofNat]; exact Nat.mod_eq_of_lt (by omega)
theorem aJs{x:Int}(ah:0≤x)(I:x<18446744073709551616):bits .xor .u64 x 0=x:=by
 obtain⟨a,rfl⟩:=Int.eq_ofNat_of_zero_le ah;show IntKind.u64.wrap ((BitVec.ofInt 64 (a:Int) ^^^ BitVec.ofInt 64 0).toNat:Int)=_
 have l:BitVec.ofInt 64 0=0#64:=rfl;rw[l,BitVec.xor_zero,Li a (by omega),lP]; omega
theorem agd{x:Int}(ah:0≤x)(I:x<18446744073709551616):bits .xor .u64 x 18446744073709551615=18446744073709551615-x:=by
 obtain⟨a,rfl⟩:=Int.eq_ofNat_of_zero_le ah;show IntKind.u64.wrap ((BitVec.ofInt 64 (a:Int) ^^^ BitVec.ofInt 64 18446744073709551615).toNat:Int)=_
 have l:BitVec.ofInt 64 18446744073709551615=BitVec.allOnes 64:=by decide
 rw[l,BitVec.xor_allOnes,BitVec.toNat_not,Li a (by omega),lP]; omega
theorem aJr{x:Int}(ah:0≤x)(I:x<9223372036854775808):bits .xor .i64 x 0=x:=by
 obtain⟨a,rfl⟩:=Int.eq_ofNat_of_zero_le ah;show IntKind.i64.wrap ((BitVec.ofInt 64 (a:Int) ^^^ BitVec.ofInt 64 0).toNat:Int)=_
 have l:BitVec.ofInt 64 0=0#64:=rfl;rw[l,BitVec.xor_zero,Li a (by omega),qS]; omega
theorem aJt{x:Int}(ah:0≤x)(I:x<9223372036854775808):bits .xor .i64 x (-1)=-x-1:=by
 obtain⟨a,rfl⟩:=Int.eq_ofNat_of_zero_le ah;show IntKind.i64.wrap ((BitVec.ofInt 64 (a:Int) ^^^ BitVec.ofInt 64 (-1)).toNat:Int)=_
 have l:BitVec.ofInt 64 (-1)=BitVec.allOnes 64:=by decide
 rw[l,BitVec.xor_allOnes,BitVec.toNat_not,Li a (by omega),qS]; omega
section
variable {A w J:World} {m bX:List bE} {Z:Type} {T:bz Z} {t l:TypeId}
theorem akw{s:af}{r:List UInt8}{xs:List Int}{k:af→World→Prop}(i:Nat)(H:E A m w)(ay:front i m=row (B .u8) l 1 s xs::bX)(ao:xs.length+r.length≤140737488355328)
  (aq:∀ q J,E A (row (B .u8) l 1 q (xs++aV r)::bX) J→k q J):Oq l s r w k:=
 Ot (fun _=>rfl) (ay▸H.front i) (by rw[gI]; omega) aq
theorem akT{s:af}{r:List UInt8}{k:List UInt8→Prop}(h:lu (B .u8) w s (aV r))(aq:k r):ex (tA s w) k:=⟨r,h,aq⟩
theorem sC{e qz:Int}{k:Int→Prop}(h:0≤e)(aq:k qz):ex (jd e qz) k:=⟨qz,⟨h,rfl⟩,aq⟩
theorem ia{bC:Type}{body:bC→World→(bC→World→Prop)→Prop}{s:bC}{w:World}(aZ:bC→World→Prop)(ty:bC→Nat)(ah:aZ s w)
  (h:∀ s w,aZ s w→∀ ab:bC→World→Prop,(∀ fO J,aZ fO J→ty fO<ty s→ab fO J)→body s w ab):fh body s w:=
 vy aZ ty ah fun s w a_=>h s w a_ _ fun fO J I R=>⟨I,R⟩
end
end bj
end Go.Proofs.YthaobmpdjcoheaaGreat
