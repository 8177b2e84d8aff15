/- Contracts of functions of the program, and what proves them (texts: BTy Inst Num B1 B2 B3). -/
import Derived.Test.YtaidcaemdkncgaaGreatDoorProg
import Derived.KernelRfl
import Derived.Test.YtaidcaemdkncgaaGreatDoorZSAC
set_option linter.all false
set_option maxRecDepth 100000
set_option maxHeartbeats 8000000
namespace Go.Proofs.YtaidcaemdkncgaaGreatDoor
section
open Go Go.Lg
theorem cI4:aL Tryz.prog 2=some 1:=by kernel_rfl
theorem cI5:bI Tryz.prog 2=some 8:=by kernel_rfl
theorem cI6:bF Tryz.prog 2=some false:=by kernel_rfl
theorem cI7:bT Tryz.prog 2=some [(.lit (.int .i64 0))]:=by kernel_rfl
theorem cI8:aT Tryz.prog 2=none:=by kernel_rfl
theorem cI9:dA Tryz.prog 2=none:=by kernel_rfl
theorem cJa:aZ Tryz.prog 2=none:=by kernel_rfl
theorem cJb:mM Tryz.prog 2=some .i64:=by kernel_rfl
theorem bPf:aL Tryz.prog 3=some 1:=by kernel_rfl
theorem bPg:bI Tryz.prog 3=some 8:=by kernel_rfl
theorem cJc:bF Tryz.prog 3=some false:=by kernel_rfl
theorem bPh:bT Tryz.prog 3=some [(.lit (.int .i64 0))]:=by kernel_rfl
theorem cJd:aT Tryz.prog 3=none:=by kernel_rfl
theorem cJe:dA Tryz.prog 3=none:=by kernel_rfl
theorem cJf:aZ Tryz.prog 3=none:=by kernel_rfl
theorem cJg:mM Tryz.prog 3=some .i64:=by kernel_rfl
theorem cJh:aL Tryz.prog 4=some 1:=by kernel_rfl
theorem cJi:bI Tryz.prog 4=some 1:=by kernel_rfl
theorem cJj:bF Tryz.prog 4=some false:=by kernel_rfl
theorem cJk:bT Tryz.prog 4=some [(.lit (.bool false))]:=by kernel_rfl
theorem cJl:aM1 Tryz.prog 4=true:=by kernel_rfl
theorem cJm:aT Tryz.prog 4=none:=by kernel_rfl
theorem cJn:dA Tryz.prog 4=none:=by kernel_rfl
theorem cJo:aZ Tryz.prog 4=none:=by kernel_rfl
theorem cJp:aL Tryz.prog 5=some 1:=by kernel_rfl
theorem cJq:bI Tryz.prog 5=some 1:=by kernel_rfl
theorem cJr:bF Tryz.prog 5=some false:=by kernel_rfl
theorem cJs:bT Tryz.prog 5=some [(.lit (.int .u8 0))]:=by kernel_rfl
theorem cJt:aT Tryz.prog 5=none:=by kernel_rfl
theorem cJu:dA Tryz.prog 5=none:=by kernel_rfl
theorem cJv:aZ Tryz.prog 5=none:=by kernel_rfl
theorem cJw:mM Tryz.prog 5=some .u8:=by kernel_rfl
theorem cJx:aL Tryz.prog 9=some 1:=by kernel_rfl
theorem cJy:bI Tryz.prog 9=some 16:=by kernel_rfl
theorem cJz:bF Tryz.prog 9=some false:=by kernel_rfl
theorem cJ0:bT Tryz.prog 9=some [(.lit (.string ByteArray.empty))]:=by kernel_rfl
theorem cJ1:aT Tryz.prog 9=none:=by kernel_rfl
theorem cJ2:dA Tryz.prog 9=none:=by kernel_rfl
theorem cJ3:aZ Tryz.prog 9=none:=by kernel_rfl
theorem bYf:aL Tryz.prog 12=some 1:=by kernel_rfl
theorem bYg:bI Tryz.prog 12=some 8:=by kernel_rfl
theorem bYh:bF Tryz.prog 12=some false:=by kernel_rfl
theorem bYi:bT Tryz.prog 12=some [(.lit (.int .u64 0))]:=by kernel_rfl
theorem bYj:aT Tryz.prog 12=none:=by kernel_rfl
theorem bYk:dA Tryz.prog 12=none:=by kernel_rfl
theorem bYl:aZ Tryz.prog 12=none:=by kernel_rfl
theorem bYm:mM Tryz.prog 12=some .u64:=by kernel_rfl
theorem bYn:aL Tryz.prog 13=some 2:=by kernel_rfl
theorem bYo:bI Tryz.prog 13=some 24:=by kernel_rfl
theorem bYp:bF Tryz.prog 13=some true:=by kernel_rfl
theorem bYq:bT Tryz.prog 13=some [(.lit (.string ByteArray.empty)),(.lit (.int .u64 0))]:=by kernel_rfl
theorem bYr:aT Tryz.prog 13=some [(0,1),(1,1)]:=by kernel_rfl
theorem bYs:dA Tryz.prog 13=none:=by kernel_rfl
theorem bYt:aZ Tryz.prog 13=none:=by kernel_rfl
theorem bIx:aX Tryz.prog 13 0=some (0,9):=by kernel_rfl
theorem bIy:aX Tryz.prog 13 1=some (1,12):=by kernel_rfl
theorem bYu:aL Tryz.prog 21=some 1:=by kernel_rfl
theorem bYv:bI Tryz.prog 21=some 4:=by kernel_rfl
theorem bYw:bF Tryz.prog 21=some false:=by kernel_rfl
theorem bYx:bT Tryz.prog 21=some [(.lit (.int .i32 0))]:=by kernel_rfl
theorem bYy:aT Tryz.prog 21=none:=by kernel_rfl
theorem bYz:dA Tryz.prog 21=none:=by kernel_rfl
theorem bY0:aZ Tryz.prog 21=none:=by kernel_rfl
theorem bY1:mM Tryz.prog 21=some .i32:=by kernel_rfl
theorem bY2:aL Tryz.prog 23=some 1:=by kernel_rfl
theorem bY3:bI Tryz.prog 23=some 24:=by kernel_rfl
theorem bY4:bF Tryz.prog 23=some false:=by kernel_rfl
theorem bY5:bT Tryz.prog 23=some [(.lit (.slice none 0 0))]:=by kernel_rfl
theorem bY6:aT Tryz.prog 23=none:=by kernel_rfl
theorem bY7:dA Tryz.prog 23=none:=by kernel_rfl
theorem bBr:aZ Tryz.prog 23=some 3:=by kernel_rfl
theorem bY8:aL Tryz.prog 24=some 2:=by kernel_rfl
theorem bY9:bI Tryz.prog 24=some 32:=by kernel_rfl
theorem bZa:bF Tryz.prog 24=some true:=by kernel_rfl
theorem bZb:bT Tryz.prog 24=some [(.lit (.int .i64 0)),(.lit (.slice none 0 0))]:=by kernel_rfl
theorem bZc:aT Tryz.prog 24=some [(0,1),(1,1)]:=by kernel_rfl
theorem bZd:dA Tryz.prog 24=none:=by kernel_rfl
theorem bZe:aZ Tryz.prog 24=none:=by kernel_rfl
theorem bIz:aX Tryz.prog 24 0=some (0,3):=by kernel_rfl
theorem bI0:aX Tryz.prog 24 1=some (1,23):=by kernel_rfl
theorem bZf:aL Tryz.prog 25=some 2:=by kernel_rfl
theorem bZg:bI Tryz.prog 25=some 32:=by kernel_rfl
theorem bZh:bF Tryz.prog 25=some true:=by kernel_rfl
theorem bZi:bT Tryz.prog 25=some [(.lit (.int .i64 0)),(.lit (.slice none 0 0))]:=by kernel_rfl
theorem bZj:aT Tryz.prog 25=some [(0,1),(1,1)]:=by kernel_rfl
theorem bZk:dA Tryz.prog 25=none:=by kernel_rfl
theorem bZl:aZ Tryz.prog 25=none:=by kernel_rfl
theorem bI1:aX Tryz.prog 25 0=some (0,3):=by kernel_rfl
theorem bI2:aX Tryz.prog 25 1=some (1,23):=by kernel_rfl
theorem bZm:aL Tryz.prog 26=some 1:=by kernel_rfl
theorem bZn:bI Tryz.prog 26=some 8:=by kernel_rfl
theorem bZo:bF Tryz.prog 26=some false:=by kernel_rfl
theorem bZp:bT Tryz.prog 26=some [(.lit (.int .i64 0))]:=by kernel_rfl
theorem bZq:aT Tryz.prog 26=none:=by kernel_rfl
theorem bZr:dA Tryz.prog 26=none:=by kernel_rfl
theorem bZs:aZ Tryz.prog 26=none:=by kernel_rfl
theorem bZt:mM Tryz.prog 26=some .i64:=by kernel_rfl
theorem bZu:aL Tryz.prog 29=some 1:=by kernel_rfl
theorem bZv:bI Tryz.prog 29=some 24:=by kernel_rfl
theorem bZw:bF Tryz.prog 29=some false:=by kernel_rfl
theorem bZx:bT Tryz.prog 29=some [(.lit (.slice none 0 0))]:=by kernel_rfl
theorem bZy:aT Tryz.prog 29=none:=by kernel_rfl
theorem bZz:dA Tryz.prog 29=none:=by kernel_rfl
theorem bZ0:aZ Tryz.prog 29=some 47:=by kernel_rfl
theorem bZ1:aL Tryz.prog 30=some 1:=by kernel_rfl
theorem bZ2:bI Tryz.prog 30=some 24:=by kernel_rfl
theorem bZ3:bF Tryz.prog 30=some false:=by kernel_rfl
theorem bZ4:bT Tryz.prog 30=some [(.lit (.slice none 0 0))]:=by kernel_rfl
theorem bZ5:aT Tryz.prog 30=none:=by kernel_rfl
theorem bZ6:dA Tryz.prog 30=none:=by kernel_rfl
theorem bZ7:aZ Tryz.prog 30=some 47:=by kernel_rfl
theorem bZ8:aL Tryz.prog 43=some 1:=by kernel_rfl
theorem bZ9:bI Tryz.prog 43=some 24:=by kernel_rfl
theorem cAa:bF Tryz.prog 43=some false:=by kernel_rfl
theorem cAb:bT Tryz.prog 43=some [(.lit (.slice none 0 0))]:=by kernel_rfl
theorem cAc:aT Tryz.prog 43=none:=by kernel_rfl
theorem cAd:dA Tryz.prog 43=none:=by kernel_rfl
theorem cAe:aZ Tryz.prog 43=some 185:=by kernel_rfl
theorem cAf:aL Tryz.prog 44=some 2:=by kernel_rfl
theorem cAg:bI Tryz.prog 44=some 32:=by kernel_rfl
theorem cAh:bF Tryz.prog 44=some true:=by kernel_rfl
theorem cAi:bT Tryz.prog 44=some [(.lit (.bool false)),(.lit (.slice none 0 0))]:=by kernel_rfl
theorem cAj:aT Tryz.prog 44=some [(0,1),(1,1)]:=by kernel_rfl
theorem cAk:dA Tryz.prog 44=none:=by kernel_rfl
theorem cAl:aZ Tryz.prog 44=none:=by kernel_rfl
theorem bI3:aX Tryz.prog 44 0=some (0,4):=by kernel_rfl
theorem bI4:aX Tryz.prog 44 1=some (1,43):=by kernel_rfl
theorem cAm:aL Tryz.prog 45=some 2:=by kernel_rfl
theorem cAn:bI Tryz.prog 45=some 32:=by kernel_rfl
theorem cAo:bF Tryz.prog 45=some true:=by kernel_rfl
theorem cAp:bT Tryz.prog 45=some [(.lit (.bool false)),(.lit (.slice none 0 0))]:=by kernel_rfl
theorem cAq:aT Tryz.prog 45=some [(0,1),(1,1)]:=by kernel_rfl
theorem cAr:dA Tryz.prog 45=none:=by kernel_rfl
theorem cAs:aZ Tryz.prog 45=none:=by kernel_rfl
theorem bI5:aX Tryz.prog 45 0=some (0,4):=by kernel_rfl
theorem bI6:aX Tryz.prog 45 1=some (1,43):=by kernel_rfl
theorem cAt:aL Tryz.prog 46=some 4:=by kernel_rfl
theorem cAu:bI Tryz.prog 46=some 64:=by kernel_rfl
theorem cAv:bF Tryz.prog 46=some true:=by kernel_rfl
theorem cAw:bT Tryz.prog 46=some [(.lit (.bool false)),(.lit (.slice none 0 0)),(.lit (.bool false)),(.lit (.slice none 0 0))]:=by kernel_rfl
theorem cAx:aT Tryz.prog 46=some [(0,2),(2,2)]:=by kernel_rfl
theorem cAy:dA Tryz.prog 46=none:=by kernel_rfl
theorem cAz:aZ Tryz.prog 46=none:=by kernel_rfl
theorem bI7:aX Tryz.prog 46 0=some (0,45):=by kernel_rfl
theorem bI8:aX Tryz.prog 46 1=some (2,45):=by kernel_rfl
theorem cA0:aL Tryz.prog 47=some 4:=by kernel_rfl
theorem cA1:bI Tryz.prog 47=some 64:=by kernel_rfl
theorem cA2:bF Tryz.prog 47=some true:=by kernel_rfl
theorem cA3:bT Tryz.prog 47=some [(.lit (.bool false)),(.lit (.slice none 0 0)),(.lit (.bool false)),(.lit (.slice none 0 0))]:=by kernel_rfl
theorem cA4:aT Tryz.prog 47=some [(0,2),(2,2)]:=by kernel_rfl
theorem cA5:dA Tryz.prog 47=none:=by kernel_rfl
theorem cA6:aZ Tryz.prog 47=none:=by kernel_rfl
theorem bI9:aX Tryz.prog 47 0=some (0,45):=by kernel_rfl
theorem bJa:aX Tryz.prog 47 1=some (2,45):=by kernel_rfl
theorem cA7:aL Tryz.prog 57=some 5:=by kernel_rfl
theorem cA8:bI Tryz.prog 57=some 72:=by kernel_rfl
theorem cA9:bF Tryz.prog 57=some true:=by kernel_rfl
theorem cBa:bT Tryz.prog 57=some [(.lit (.int .i64 0)),(.lit (.slice none 0 0)),(.lit (.int .i64 0)),(.lit (.slice none 0 0)),(.lit (.int .i64 0))]:=by kernel_rfl
theorem cBb:aT Tryz.prog 57=some [(0,2),(2,2),(4,1)]:=by kernel_rfl
theorem cBc:dA Tryz.prog 57=none:=by kernel_rfl
theorem cBd:aZ Tryz.prog 57=none:=by kernel_rfl
theorem bJb:aX Tryz.prog 57 0=some (0,25):=by kernel_rfl
theorem bJc:aX Tryz.prog 57 1=some (2,25):=by kernel_rfl
theorem bJd:aX Tryz.prog 57 2=some (4,3):=by kernel_rfl
theorem cBe:aL Tryz.prog 58=some 5:=by kernel_rfl
theorem cBf:bI Tryz.prog 58=some 72:=by kernel_rfl
theorem cBg:bF Tryz.prog 58=some true:=by kernel_rfl
theorem cBh:bT Tryz.prog 58=some [(.lit (.int .i64 0)),(.lit (.slice none 0 0)),(.lit (.int .i64 0)),(.lit (.slice none 0 0)),(.lit (.int .i64 0))]:=by kernel_rfl
theorem cBi:aT Tryz.prog 58=some [(0,2),(2,2),(4,1)]:=by kernel_rfl
theorem cBj:dA Tryz.prog 58=none:=by kernel_rfl
theorem cBk:aZ Tryz.prog 58=none:=by kernel_rfl
theorem bJe:aX Tryz.prog 58 0=some (0,25):=by kernel_rfl
theorem bJf:aX Tryz.prog 58 1=some (2,25):=by kernel_rfl
theorem bJg:aX Tryz.prog 58 2=some (4,3):=by kernel_rfl
theorem cBl:aL Tryz.prog 59=some 1:=by kernel_rfl
theorem cBm:bI Tryz.prog 59=some 24:=by kernel_rfl
theorem cBn:bF Tryz.prog 59=some false:=by kernel_rfl
theorem cBo:bT Tryz.prog 59=some [(.lit (.slice none 0 0))]:=by kernel_rfl
theorem cBp:aT Tryz.prog 59=none:=by kernel_rfl
theorem cBq:dA Tryz.prog 59=none:=by kernel_rfl
theorem cBr:aZ Tryz.prog 59=some 80:=by kernel_rfl
theorem cBs:aL Tryz.prog 66=some 3:=by kernel_rfl
theorem cBt:bI Tryz.prog 66=some 24:=by kernel_rfl
theorem cBu:bF Tryz.prog 66=some true:=by kernel_rfl
theorem cBv:bT Tryz.prog 66=some [(.lit (.int .i64 0)),(.lit (.int .i64 0)),(.lit (.int .i64 0))]:=by kernel_rfl
theorem cBw:aT Tryz.prog 66=some [(0,1),(1,1),(2,1)]:=by kernel_rfl
theorem cBx:dA Tryz.prog 66=none:=by kernel_rfl
theorem cBy:aZ Tryz.prog 66=none:=by kernel_rfl
theorem bJh:aX Tryz.prog 66 0=some (0,3):=by kernel_rfl
theorem bJi:aX Tryz.prog 66 1=some (1,3):=by kernel_rfl
theorem bJj:aX Tryz.prog 66 2=some (2,3):=by kernel_rfl
theorem cBz:aL Tryz.prog 67=some 3:=by kernel_rfl
theorem cB0:bI Tryz.prog 67=some 24:=by kernel_rfl
theorem cB1:bF Tryz.prog 67=some true:=by kernel_rfl
theorem cB2:bT Tryz.prog 67=some [(.lit (.int .i64 0)),(.lit (.int .i64 0)),(.lit (.int .i64 0))]:=by kernel_rfl
theorem cB3:aT Tryz.prog 67=some [(0,1),(1,1),(2,1)]:=by kernel_rfl
theorem cB4:dA Tryz.prog 67=none:=by kernel_rfl
theorem cB5:aZ Tryz.prog 67=none:=by kernel_rfl
theorem bJk:aX Tryz.prog 67 0=some (0,3):=by kernel_rfl
theorem bJl:aX Tryz.prog 67 1=some (1,3):=by kernel_rfl
theorem bJm:aX Tryz.prog 67 2=some (2,3):=by kernel_rfl
theorem cB6:aL Tryz.prog 68=some 1:=by kernel_rfl
theorem cB7:bI Tryz.prog 68=some 24:=by kernel_rfl
theorem cB8:bF Tryz.prog 68=some false:=by kernel_rfl
theorem cB9:bT Tryz.prog 68=some [(.lit (.slice none 0 0))]:=by kernel_rfl
theorem cCa:aT Tryz.prog 68=none:=by kernel_rfl
theorem cCb:dA Tryz.prog 68=none:=by kernel_rfl
theorem cCc:aZ Tryz.prog 68=some 58:=by kernel_rfl
theorem cCd:aL Tryz.prog 80=some 2:=by kernel_rfl
theorem cCe:bI Tryz.prog 80=some 32:=by kernel_rfl
theorem cCf:bF Tryz.prog 80=some true:=by kernel_rfl
theorem cCg:bT Tryz.prog 80=some [(.lit (.int .i64 0)),(.lit (.slice none 0 0))]:=by kernel_rfl
theorem cCh:aT Tryz.prog 80=some [(0,1),(1,1)]:=by kernel_rfl
theorem cCi:dA Tryz.prog 80=none:=by kernel_rfl
theorem cCj:aZ Tryz.prog 80=none:=by kernel_rfl
theorem bJn:aX Tryz.prog 80 0=some (0,3):=by kernel_rfl
theorem bJo:aX Tryz.prog 80 1=some (1,29):=by kernel_rfl
theorem cCk:aL Tryz.prog 88=some 3:=by kernel_rfl
theorem cCl:bI Tryz.prog 88=some 24:=by kernel_rfl
theorem cCm:bF Tryz.prog 88=some true:=by kernel_rfl
theorem cCn:bT Tryz.prog 88=some [(.lit (.bool false)),(.lit (.int .i64 0)),(.lit (.int .i64 0))]:=by kernel_rfl
theorem cCo:aT Tryz.prog 88=some [(0,1),(1,1),(2,1)]:=by kernel_rfl
theorem cCp:dA Tryz.prog 88=none:=by kernel_rfl
theorem cCq:aZ Tryz.prog 88=none:=by kernel_rfl
theorem bJp:aX Tryz.prog 88 0=some (0,4):=by kernel_rfl
theorem bJq:aX Tryz.prog 88 1=some (1,3):=by kernel_rfl
theorem bJr:aX Tryz.prog 88 2=some (2,3):=by kernel_rfl
theorem cCr:aL Tryz.prog 89=some 3:=by kernel_rfl
theorem cCs:bI Tryz.prog 89=some 24:=by kernel_rfl
theorem cCt:bF Tryz.prog 89=some true:=by kernel_rfl
theorem cCu:bT Tryz.prog 89=some [(.lit (.bool false)),(.lit (.int .i64 0)),(.lit (.int .i64 0))]:=by kernel_rfl
theorem cCv:aT Tryz.prog 89=some [(0,1),(1,1),(2,1)]:=by kernel_rfl
theorem cCw:dA Tryz.prog 89=none:=by kernel_rfl
theorem cCx:aZ Tryz.prog 89=none:=by kernel_rfl
theorem bJs:aX Tryz.prog 89 0=some (0,4):=by kernel_rfl
theorem bJt:aX Tryz.prog 89 1=some (1,3):=by kernel_rfl
theorem bJu:aX Tryz.prog 89 2=some (2,3):=by kernel_rfl
theorem cCy:aL Tryz.prog 92=some 1:=by kernel_rfl
theorem cCz:bI Tryz.prog 92=some 24:=by kernel_rfl
theorem cC0:bF Tryz.prog 92=some false:=by kernel_rfl
theorem cC1:bT Tryz.prog 92=some [(.lit (.slice none 0 0))]:=by kernel_rfl
theorem cC2:aT Tryz.prog 92=none:=by kernel_rfl
theorem cC3:dA Tryz.prog 92=none:=by kernel_rfl
theorem cC4:aZ Tryz.prog 92=some 3:=by kernel_rfl
theorem cC5:aL Tryz.prog 98=some 1:=by kernel_rfl
theorem cC6:bI Tryz.prog 98=some 24:=by kernel_rfl
theorem cC7:bF Tryz.prog 98=some false:=by kernel_rfl
theorem cC8:bT Tryz.prog 98=some [(.lit (.slice none 0 0))]:=by kernel_rfl
theorem cC9:aT Tryz.prog 98=none:=by kernel_rfl
theorem cDa:dA Tryz.prog 98=none:=by kernel_rfl
theorem cDb:aZ Tryz.prog 98=some 45:=by kernel_rfl
theorem cDc:aL Tryz.prog 99=some 1:=by kernel_rfl
theorem cDd:bI Tryz.prog 99=some 24:=by kernel_rfl
theorem cDe:bF Tryz.prog 99=some false:=by kernel_rfl
theorem cDf:bT Tryz.prog 99=some [(.lit (.slice none 0 0))]:=by kernel_rfl
theorem cDg:aT Tryz.prog 99=none:=by kernel_rfl
theorem cDh:dA Tryz.prog 99=none:=by kernel_rfl
theorem cDi:aZ Tryz.prog 99=some 45:=by kernel_rfl
theorem bPi:aL Tryz.prog 100=some 1:=by kernel_rfl
theorem bPj:bI Tryz.prog 100=some 24:=by kernel_rfl
theorem bPk:bF Tryz.prog 100=some true:=by kernel_rfl
theorem bPl:bT Tryz.prog 100=some [(.lit (.slice none 0 0))]:=by kernel_rfl
theorem bPm:aT Tryz.prog 100=some [(0,1)]:=by kernel_rfl
theorem bPn:dA Tryz.prog 100=none:=by kernel_rfl
theorem bPo:aZ Tryz.prog 100=none:=by kernel_rfl
theorem bBs:aX Tryz.prog 100 0=some (0,99):=by kernel_rfl
theorem bPp:aL Tryz.prog 101=some 1:=by kernel_rfl
theorem bPq:bI Tryz.prog 101=some 24:=by kernel_rfl
theorem bPr:bF Tryz.prog 101=some true:=by kernel_rfl
theorem bPs:bT Tryz.prog 101=some [(.lit (.slice none 0 0))]:=by kernel_rfl
theorem bPt:aT Tryz.prog 101=some [(0,1)]:=by kernel_rfl
theorem bPu:dA Tryz.prog 101=none:=by kernel_rfl
theorem bPv:aZ Tryz.prog 101=none:=by kernel_rfl
theorem bBt:aX Tryz.prog 101 0=some (0,99):=by kernel_rfl
theorem bPw:aL Tryz.prog 132=some 1:=by kernel_rfl
theorem bPx:bI Tryz.prog 132=some 24:=by kernel_rfl
theorem bPy:bF Tryz.prog 132=some false:=by kernel_rfl
theorem bPz:bT Tryz.prog 132=some [(.lit (.slice none 0 0))]:=by kernel_rfl
theorem bP0:aT Tryz.prog 132=none:=by kernel_rfl
theorem bP1:dA Tryz.prog 132=none:=by kernel_rfl
theorem bP2:aZ Tryz.prog 132=some 29:=by kernel_rfl
theorem bP3:aL Tryz.prog 133=some 1:=by kernel_rfl
theorem bP4:bI Tryz.prog 133=some 24:=by kernel_rfl
theorem bP5:bF Tryz.prog 133=some false:=by kernel_rfl
theorem bP6:bT Tryz.prog 133=some [(.lit (.slice none 0 0))]:=by kernel_rfl
theorem bP7:aT Tryz.prog 133=none:=by kernel_rfl
theorem bP8:dA Tryz.prog 133=none:=by kernel_rfl
theorem bP9:aZ Tryz.prog 133=some 30:=by kernel_rfl
theorem bQa:aL Tryz.prog 150=some 1:=by kernel_rfl
theorem bQb:bI Tryz.prog 150=some 24:=by kernel_rfl
theorem bQc:bF Tryz.prog 150=some false:=by kernel_rfl
theorem bQd:bT Tryz.prog 150=some [(.lit (.slice none 0 0))]:=by kernel_rfl
theorem bQe:aT Tryz.prog 150=none:=by kernel_rfl
theorem bQf:dA Tryz.prog 150=none:=by kernel_rfl
theorem bQg:aZ Tryz.prog 150=some 25:=by kernel_rfl
theorem bQh:aL Tryz.prog 159=some 5:=by kernel_rfl
theorem bQi:bI Tryz.prog 159=some 40:=by kernel_rfl
theorem bQj:bF Tryz.prog 159=some true:=by kernel_rfl
theorem bQk:bT Tryz.prog 159=some [(.lit (.int .i64 0)),(.lit (.int .i64 0)),(.lit (.int .i64 0)),(.lit (.int .i64 0)),(.lit (.int .i64 0))]:=by kernel_rfl
theorem bQl:aT Tryz.prog 159=some [(0,1),(1,1),(2,1),(3,1),(4,1)]:=by kernel_rfl
theorem bQm:dA Tryz.prog 159=none:=by kernel_rfl
theorem bQn:aZ Tryz.prog 159=none:=by kernel_rfl
theorem bBu:aX Tryz.prog 159 0=some (0,3):=by kernel_rfl
theorem bBv:aX Tryz.prog 159 1=some (1,3):=by kernel_rfl
theorem bBw:aX Tryz.prog 159 2=some (2,3):=by kernel_rfl
theorem bBx:aX Tryz.prog 159 3=some (3,3):=by kernel_rfl
theorem bBy:aX Tryz.prog 159 4=some (4,3):=by kernel_rfl
theorem bQo:aL Tryz.prog 160=some 5:=by kernel_rfl
theorem bQp:bI Tryz.prog 160=some 40:=by kernel_rfl
theorem bQq:bF Tryz.prog 160=some true:=by kernel_rfl
theorem bQr:bT Tryz.prog 160=some [(.lit (.int .i64 0)),(.lit (.int .i64 0)),(.lit (.int .i64 0)),(.lit (.int .i64 0)),(.lit (.int .i64 0))]:=by kernel_rfl
theorem bQs:aT Tryz.prog 160=some [(0,1),(1,1),(2,1),(3,1),(4,1)]:=by kernel_rfl
theorem bQt:dA Tryz.prog 160=none:=by kernel_rfl
theorem bQu:aZ Tryz.prog 160=none:=by kernel_rfl
theorem bBz:aX Tryz.prog 160 0=some (0,3):=by kernel_rfl
theorem bB0:aX Tryz.prog 160 1=some (1,3):=by kernel_rfl
theorem bB1:aX Tryz.prog 160 2=some (2,3):=by kernel_rfl
theorem bB2:aX Tryz.prog 160 3=some (3,3):=by kernel_rfl
theorem bB3:aX Tryz.prog 160 4=some (4,3):=by kernel_rfl
theorem bQv:aL Tryz.prog 169=some 1:=by kernel_rfl
theorem bQw:bI Tryz.prog 169=some 8:=by kernel_rfl
theorem bQx:bF Tryz.prog 169=some false:=by kernel_rfl
theorem bQy:bT Tryz.prog 169=some [(.lit (.int .u64 0))]:=by kernel_rfl
theorem bQz:aT Tryz.prog 169=none:=by kernel_rfl
theorem bQ0:dA Tryz.prog 169=none:=by kernel_rfl
theorem bQ1:aZ Tryz.prog 169=none:=by kernel_rfl
theorem bQ2:mM Tryz.prog 169=some .u64:=by kernel_rfl
theorem bQ3:aL Tryz.prog 180=some 1:=by kernel_rfl
theorem bQ4:bI Tryz.prog 180=some 24:=by kernel_rfl
theorem bQ5:bF Tryz.prog 180=some false:=by kernel_rfl
theorem bQ6:bT Tryz.prog 180=some [(.lit (.slice none 0 0))]:=by kernel_rfl
theorem bQ7:aT Tryz.prog 180=none:=by kernel_rfl
theorem bQ8:dA Tryz.prog 180=none:=by kernel_rfl
theorem bQ9:aZ Tryz.prog 180=some 47:=by kernel_rfl
theorem bRa:aL Tryz.prog 185=some 1:=by kernel_rfl
theorem bRb:bI Tryz.prog 185=some 4:=by kernel_rfl
theorem bRc:bF Tryz.prog 185=some false:=by kernel_rfl
theorem bRd:bT Tryz.prog 185=some [(.lit (.int .u32 0))]:=by kernel_rfl
theorem bRe:aT Tryz.prog 185=none:=by kernel_rfl
theorem bRf:dA Tryz.prog 185=none:=by kernel_rfl
theorem bRg:aZ Tryz.prog 185=none:=by kernel_rfl
theorem bRh:mM Tryz.prog 185=some .u32:=by kernel_rfl
theorem bRi:aL Tryz.prog 186=some 1:=by kernel_rfl
theorem bRj:bI Tryz.prog 186=some 8:=by kernel_rfl
theorem bRk:bF Tryz.prog 186=some false:=by kernel_rfl
theorem bRl:bT Tryz.prog 186=some [(.lit (.int .u64 0))]:=by kernel_rfl
theorem bRm:aT Tryz.prog 186=none:=by kernel_rfl
theorem bRn:dA Tryz.prog 186=none:=by kernel_rfl
theorem bRo:aZ Tryz.prog 186=none:=by kernel_rfl
theorem bRp:mM Tryz.prog 186=some .u64:=by kernel_rfl
theorem bRq:aL Tryz.prog 187=some 1:=by kernel_rfl
theorem bRr:bI Tryz.prog 187=some 24:=by kernel_rfl
theorem bRs:bF Tryz.prog 187=some false:=by kernel_rfl
theorem bRt:bT Tryz.prog 187=some [(.lit (.slice none 0 0))]:=by kernel_rfl
theorem bRu:aT Tryz.prog 187=none:=by kernel_rfl
theorem bRv:dA Tryz.prog 187=none:=by kernel_rfl
theorem bRw:aZ Tryz.prog 187=some 190:=by kernel_rfl
theorem bRx:aL Tryz.prog 189=some 3:=by kernel_rfl
theorem bRy:bI Tryz.prog 189=some 24:=by kernel_rfl
theorem bRz:bF Tryz.prog 189=some true:=by kernel_rfl
theorem bR0:bT Tryz.prog 189=some [(.lit (.int .i64 0)),(.lit (.int .i64 0)),(.lit (.int .i64 0))]:=by kernel_rfl
theorem bR1:aT Tryz.prog 189=some [(0,1),(1,1),(2,1)]:=by kernel_rfl
theorem bR2:dA Tryz.prog 189=none:=by kernel_rfl
theorem bR3:aZ Tryz.prog 189=none:=by kernel_rfl
theorem bB4:aX Tryz.prog 189 0=some (0,3):=by kernel_rfl
theorem bB5:aX Tryz.prog 189 1=some (1,3):=by kernel_rfl
theorem bB6:aX Tryz.prog 189 2=some (2,3):=by kernel_rfl
theorem bR4:aL Tryz.prog 190=some 3:=by kernel_rfl
theorem bR5:bI Tryz.prog 190=some 24:=by kernel_rfl
theorem bR6:bF Tryz.prog 190=some true:=by kernel_rfl
theorem bR7:bT Tryz.prog 190=some [(.lit (.int .i64 0)),(.lit (.int .i64 0)),(.lit (.int .i64 0))]:=by kernel_rfl
theorem bR8:aT Tryz.prog 190=some [(0,1),(1,1),(2,1)]:=by kernel_rfl
theorem bR9:dA Tryz.prog 190=none:=by kernel_rfl
theorem bSa:aZ Tryz.prog 190=none:=by kernel_rfl
theorem bB7:aX Tryz.prog 190 0=some (0,3):=by kernel_rfl
theorem bB8:aX Tryz.prog 190 1=some (1,3):=by kernel_rfl
theorem bB9:aX Tryz.prog 190 2=some (2,3):=by kernel_rfl
theorem bSb:aL Tryz.prog 218=some 1:=by kernel_rfl
theorem bSc:bI Tryz.prog 218=some 24:=by kernel_rfl
theorem bSd:bF Tryz.prog 218=some false:=by kernel_rfl
theorem bSe:bT Tryz.prog 218=some [(.lit (.slice none 0 0))]:=by kernel_rfl
theorem bSf:aT Tryz.prog 218=none:=by kernel_rfl
theorem bSg:dA Tryz.prog 218=none:=by kernel_rfl
theorem bSh:aZ Tryz.prog 218=some 221:=by kernel_rfl
theorem bSi:aL Tryz.prog 220=some 2:=by kernel_rfl
theorem bSj:bI Tryz.prog 220=some 16:=by kernel_rfl
theorem bSk:bF Tryz.prog 220=some true:=by kernel_rfl
theorem bSl:bT Tryz.prog 220=some [(.lit (.int .i64 0)),(.lit (.int .i64 0))]:=by kernel_rfl
theorem bSm:aT Tryz.prog 220=some [(0,1),(1,1)]:=by kernel_rfl
theorem bSn:dA Tryz.prog 220=none:=by kernel_rfl
theorem bSo:aZ Tryz.prog 220=none:=by kernel_rfl
theorem bCa:aX Tryz.prog 220 0=some (0,3):=by kernel_rfl
theorem bCb:aX Tryz.prog 220 1=some (1,3):=by kernel_rfl
theorem bSp:aL Tryz.prog 221=some 2:=by kernel_rfl
theorem bSq:bI Tryz.prog 221=some 16:=by kernel_rfl
theorem bSr:bF Tryz.prog 221=some true:=by kernel_rfl
theorem bSs:bT Tryz.prog 221=some [(.lit (.int .i64 0)),(.lit (.int .i64 0))]:=by kernel_rfl
theorem bSt:aT Tryz.prog 221=some [(0,1),(1,1)]:=by kernel_rfl
theorem bSu:dA Tryz.prog 221=none:=by kernel_rfl
theorem bSv:aZ Tryz.prog 221=none:=by kernel_rfl
theorem bCc:aX Tryz.prog 221 0=some (0,3):=by kernel_rfl
theorem bCd:aX Tryz.prog 221 1=some (1,3):=by kernel_rfl
theorem bSw:aL Tryz.prog 240=some 2:=by kernel_rfl
theorem bSx:bI Tryz.prog 240=some 16:=by kernel_rfl
theorem bSy:bF Tryz.prog 240=some true:=by kernel_rfl
theorem bSz:bT Tryz.prog 240=some [(.lit (.int .i64 0)),(.lit (.int .i64 0))]:=by kernel_rfl
theorem bS0:aT Tryz.prog 240=some [(0,1),(1,1)]:=by kernel_rfl
theorem bS1:dA Tryz.prog 240=none:=by kernel_rfl
theorem bS2:aZ Tryz.prog 240=none:=by kernel_rfl
theorem bCe:aX Tryz.prog 240 0=some (0,3):=by kernel_rfl
theorem bCf:aX Tryz.prog 240 1=some (1,3):=by kernel_rfl
theorem bS3:aL Tryz.prog 241=some 2:=by kernel_rfl
theorem bS4:bI Tryz.prog 241=some 16:=by kernel_rfl
theorem bS5:bF Tryz.prog 241=some true:=by kernel_rfl
theorem bS6:bT Tryz.prog 241=some [(.lit (.int .i64 0)),(.lit (.int .i64 0))]:=by kernel_rfl
theorem bS7:aT Tryz.prog 241=some [(0,1),(1,1)]:=by kernel_rfl
theorem bS8:dA Tryz.prog 241=none:=by kernel_rfl
theorem bS9:aZ Tryz.prog 241=none:=by kernel_rfl
theorem bCg:aX Tryz.prog 241 0=some (0,3):=by kernel_rfl
theorem bCh:aX Tryz.prog 241 1=some (1,3):=by kernel_rfl
theorem bTa:aL Tryz.prog 244=some 1:=by kernel_rfl
theorem bTb:bI Tryz.prog 244=some 24:=by kernel_rfl
theorem bTc:bF Tryz.prog 244=some false:=by kernel_rfl
theorem bTd:bT Tryz.prog 244=some [(.lit (.slice none 0 0))]:=by kernel_rfl
theorem bTe:aT Tryz.prog 244=none:=by kernel_rfl
theorem bTf:dA Tryz.prog 244=none:=by kernel_rfl
theorem bTg:aZ Tryz.prog 244=some 241:=by kernel_rfl
theorem bTh:aL Tryz.prog 245=some 64:=by kernel_rfl
theorem bTi:bI Tryz.prog 245=some 64:=by kernel_rfl
theorem bTj:bF Tryz.prog 245=some true:=by kernel_rfl
theorem bTk:bT Tryz.prog 245=some [(.lit (.int .u8 0)),(.lit (.int .u8 0)),(.lit (.int .u8 0)),(.lit (.int .u8 0)),(.lit (.int .u8 0)),(.lit (.int .u8 0)),(.lit (.int .u8 0)),(.lit (.int .u8 0)),(.lit (.int .u8 0)),(.lit (.int .u8 0)),(.lit (.int .u8 0)),(.lit (.int .u8 0)),(.lit (.int .u8 0)),(.lit (.int .u8 0)),(.lit (.int .u8 0)),(.lit (.int .u8 0)),(.lit (.int .u8 0)),(.lit (.int .u8 0)),(.lit (.int .u8 0)),(.lit (.int .u8 0)),(.lit (.int .u8 0)),(.lit (.int .u8 0)),(.lit (.int .u8 0)),(.lit (.int .u8 0)),(.lit (.int .u8 0)),(.lit (.int .u8 0)),(.lit (.int .u8 0)),(.lit (.int .u8 0)),(.lit (.int .u8 0)),(.lit (.int .u8 0)),(.lit (.int .u8 0)),(.lit (.int .u8 0)),(.lit (.int .u8 0)),(.lit (.int .u8 0)),(.lit (.int .u8 0)),(.lit (.int .u8 0)),(.lit (.int .u8 0)),(.lit (.int .u8 0)),(.lit (.int .u8 0)),(.lit (.int .u8 0)),(.lit (.int .u8 0)),(.lit (.int .u8 0)),(.lit (.int .u8 0)),(.lit (.int .u8 0)),(.lit (.int .u8 0)),(.lit (.int .u8 0)),(.lit (.int .u8 0)),(.lit (.int .u8 0)),(.lit (.int .u8 0)),(.lit (.int .u8 0)),(.lit (.int .u8 0)),(.lit (.int .u8 0)),(.lit (.int .u8 0)),(.lit (.int .u8 0)),(.lit (.int .u8 0)),(.lit (.int .u8 0)),(.lit (.int .u8 0)),(.lit (.int .u8 0)),(.lit (.int .u8 0)),(.lit (.int .u8 0)),(.lit (.int .u8 0)),(.lit (.int .u8 0)),(.lit (.int .u8 0)),(.lit (.int .u8 0))]:=by kernel_rfl
theorem bTl:aT Tryz.prog 245=none:=by kernel_rfl
theorem bTm:aZ Tryz.prog 245=none:=by kernel_rfl
theorem bTn:dA Tryz.prog 245=some (64,5):=by kernel_rfl
theorem bTo:aL Tryz.prog 253=some 2:=by kernel_rfl
theorem bTp:bI Tryz.prog 253=some 32:=by kernel_rfl
theorem bTq:bF Tryz.prog 253=some true:=by kernel_rfl
theorem bTr:bT Tryz.prog 253=some [(.lit (.slice none 0 0)),(.lit (.int .i64 0))]:=by kernel_rfl
theorem bTs:aT Tryz.prog 253=some [(0,1),(1,1)]:=by kernel_rfl
theorem bTt:dA Tryz.prog 253=none:=by kernel_rfl
theorem bTu:aZ Tryz.prog 253=none:=by kernel_rfl
theorem bCi:aX Tryz.prog 253 0=some (0,180):=by kernel_rfl
theorem bCj:aX Tryz.prog 253 1=some (1,3):=by kernel_rfl
theorem bTv:aL Tryz.prog 338=some 0:=by kernel_rfl
theorem bTw:bI Tryz.prog 338=some 0:=by kernel_rfl
theorem bTx:bF Tryz.prog 338=some true:=by kernel_rfl
theorem bTy:bT Tryz.prog 338=some []:=by kernel_rfl
theorem bTz:aT Tryz.prog 338=none:=by kernel_rfl
theorem bT0:aZ Tryz.prog 338=none:=by kernel_rfl
theorem bT1:dA Tryz.prog 338=some (0,16):=by kernel_rfl
theorem bT2:aL Tryz.prog 349=some 1:=by kernel_rfl
theorem bT3:bI Tryz.prog 349=some 16:=by kernel_rfl
theorem bT4:bF Tryz.prog 349=some true:=by kernel_rfl
theorem bT5:bT Tryz.prog 349=some [(.lit (.string ByteArray.empty))]:=by kernel_rfl
theorem bT6:aT Tryz.prog 349=some [(0,1)]:=by kernel_rfl
theorem bT7:dA Tryz.prog 349=none:=by kernel_rfl
theorem bT8:aZ Tryz.prog 349=none:=by kernel_rfl
theorem bCk:aX Tryz.prog 349 0=some (0,9):=by kernel_rfl
def tyA:=
 (nd (nd (nd (nd (nd (nd (nd (nd cI4 (nd cI5 cI6)) (nd (nd cI7 cI8) (nd cI9 cJa))) (nd (nd cJb (nd bPf bPg)) (nd (nd cJc bPh) (nd cJd cJe)))) (nd (nd (nd cJf (nd cJg cJh)) (nd (nd cJi cJj) (nd cJk cJl))) (nd (nd cJm (nd cJn cJo)) (nd (nd cJp cJq) (nd cJr cJs))))) (nd (nd (nd (nd cJt (nd cJu cJv)) (nd (nd cJw cJx) (nd cJy cJz))) (nd (nd cJ0 (nd cJ1 cJ2)) (nd (nd cJ3 bYf) (nd bYg bYh)))) (nd (nd (nd bYi (nd bYj bYk)) (nd (nd bYl bYm) (nd bYn bYo))) (nd (nd (nd bYp bYq) (nd bYr bYs)) (nd (nd bYt bIx) (nd bIy bYu)))))) (nd (nd (nd (nd (nd bYv (nd bYw bYx)) (nd (nd bYy bYz) (nd bY0 bY1))) (nd (nd bY2 (nd bY3 bY4)) (nd (nd bY5 bY6) (nd bY7 bBr)))) (nd (nd (nd bY8 (nd bY9 bZa)) (nd (nd bZb bZc) (nd bZd bZe))) (nd (nd bIz (nd bI0 bZf)) (nd (nd bZg bZh) (nd bZi bZj))))) (nd (nd (nd (nd bZk (nd bZl bI1)) (nd (nd bI2 bZm) (nd bZn bZo))) (nd (nd bZp (nd bZq bZr)) (nd (nd bZs bZt) (nd bZu bZv)))) (nd (nd (nd bZw (nd bZx bZy)) (nd (nd bZz bZ0) (nd bZ1 bZ2))) (nd (nd (nd bZ3 bZ4) (nd bZ5 bZ6)) (nd (nd bZ7 bZ8) (nd bZ9 cAa))))))) (nd (nd (nd (nd (nd (nd cAb (nd cAc cAd)) (nd (nd cAe cAf) (nd cAg cAh))) (nd (nd cAi (nd cAj cAk)) (nd (nd cAl bI3) (nd bI4 cAm)))) (nd (nd (nd cAn (nd cAo cAp)) (nd (nd cAq cAr) (nd cAs bI5))) (nd (nd bI6 (nd cAt cAu)) (nd (nd cAv cAw) (nd cAx cAy))))) (nd (nd (nd (nd cAz (nd bI7 bI8)) (nd (nd cA0 cA1) (nd cA2 cA3))) (nd (nd cA4 (nd cA5 cA6)) (nd (nd bI9 bJa) (nd cA7 cA8)))) (nd (nd (nd cA9 (nd cBa cBb)) (nd (nd cBc cBd) (nd bJb bJc))) (nd (nd (nd bJd cBe) (nd cBf cBg)) (nd (nd cBh cBi) (nd cBj cBk)))))) (nd (nd (nd (nd (nd bJe (nd bJf bJg)) (nd (nd cBl cBm) (nd cBn cBo))) (nd (nd cBp (nd cBq cBr)) (nd (nd cBs cBt) (nd cBu cBv)))) (nd (nd (nd cBw (nd cBx cBy)) (nd (nd bJh bJi) (nd bJj cBz))) (nd (nd (nd cB0 cB1) (nd cB2 cB3)) (nd (nd cB4 cB5) (nd bJk bJl))))) (nd (nd (nd (nd bJm (nd cB6 cB7)) (nd (nd cB8 cB9) (nd cCa cCb))) (nd (nd cCc (nd cCd cCe)) (nd (nd cCf cCg) (nd cCh cCi)))) (nd (nd (nd cCj (nd bJn bJo)) (nd (nd cCk cCl) (nd cCm cCn))) (nd (nd (nd cCo cCp) (nd cCq bJp)) (nd (nd bJq bJr) (nd cCr cCs)))))))) (nd (nd (nd (nd (nd (nd (nd cCt (nd cCu cCv)) (nd (nd cCw cCx) (nd bJs bJt))) (nd (nd bJu (nd cCy cCz)) (nd (nd cC0 cC1) (nd cC2 cC3)))) (nd (nd (nd cC4 (nd cC5 cC6)) (nd (nd cC7 cC8) (nd cC9 cDa))) (nd (nd cDb (nd cDc cDd)) (nd (nd cDe cDf) (nd cDg cDh))))) (nd (nd (nd (nd cDi (nd bPi bPj)) (nd (nd bPk bPl) (nd bPm bPn))) (nd (nd bPo (nd bBs bPp)) (nd (nd bPq bPr) (nd bPs bPt)))) (nd (nd (nd bPu (nd bPv bBt)) (nd (nd bPw bPx) (nd bPy bPz))) (nd (nd (nd bP0 bP1) (nd bP2 bP3)) (nd (nd bP4 bP5) (nd bP6 bP7)))))) (nd (nd (nd (nd (nd bP8 (nd bP9 bQa)) (nd (nd bQb bQc) (nd bQd bQe))) (nd (nd bQf (nd bQg bQh)) (nd (nd bQi bQj) (nd bQk bQl)))) (nd (nd (nd bQm (nd bQn bBu)) (nd (nd bBv bBw) (nd bBx bBy))) (nd (nd bQo (nd bQp bQq)) (nd (nd bQr bQs) (nd bQt bQu))))) (nd (nd (nd (nd bBz (nd bB0 bB1)) (nd (nd bB2 bB3) (nd bQv bQw))) (nd (nd bQx (nd bQy bQz)) (nd (nd bQ0 bQ1) (nd bQ2 bQ3)))) (nd (nd (nd bQ4 (nd bQ5 bQ6)) (nd (nd bQ7 bQ8) (nd bQ9 bRa))) (nd (nd (nd bRb bRc) (nd bRd bRe)) (nd (nd bRf bRg) (nd bRh bRi))))))) (nd (nd (nd (nd (nd (nd bRj (nd bRk bRl)) (nd (nd bRm bRn) (nd bRo bRp))) (nd (nd bRq (nd bRr bRs)) (nd (nd bRt bRu) (nd bRv bRw)))) (nd (nd (nd bRx (nd bRy bRz)) (nd (nd bR0 bR1) (nd bR2 bR3))) (nd (nd bB4 (nd bB5 bB6)) (nd (nd bR4 bR5) (nd bR6 bR7))))) (nd (nd (nd (nd bR8 (nd bR9 bSa)) (nd (nd bB7 bB8) (nd bB9 bSb))) (nd (nd bSc (nd bSd bSe)) (nd (nd bSf bSg) (nd bSh bSi)))) (nd (nd (nd bSj (nd bSk bSl)) (nd (nd bSm bSn) (nd bSo bCa))) (nd (nd (nd bCb bSp) (nd bSq bSr)) (nd (nd bSs bSt) (nd bSu bSv)))))) (nd (nd (nd (nd (nd bCc (nd bCd bSw)) (nd (nd bSx bSy) (nd bSz bS0))) (nd (nd bS1 (nd bS2 bCe)) (nd (nd bCf bS3) (nd bS4 bS5)))) (nd (nd (nd bS6 (nd bS7 bS8)) (nd (nd bS9 bCg) (nd bCh bTa))) (nd (nd (nd bTb bTc) (nd bTd bTe)) (nd (nd bTf bTg) (nd bTh bTi))))) (nd (nd (nd (nd bTj (nd bTk bTl)) (nd (nd bTm bTn) (nd bTo bTp))) (nd (nd bTq (nd bTr bTs)) (nd (nd bTt bTu) (nd bCi bCj)))) (nd (nd (nd bTv (nd bTw bTx)) (nd (nd bTy bTz) (nd bT0 bT1))) (nd (nd (nd bT2 bT3) (nd bT4 bT5)) (nd (nd bT6 bT7) (nd bT8 bCk)))))))))
def smY:=nd smZ tyA
end
section
open Go Go.Lg
def aIq:List Nat:=[0,1,56,2,57,49,28,3,61,58,42,50,38,29,17,4,62,47,59,36,45,43,51,22,53,39,33,30,24,18,12,5,63,55,48,27,60,41,37,16,46,35,44,21,52,32,23,11,54,26,40,15,34,20,31,10,25,14,19,9,13,8,7,6]
def Tryz.laid:List (Nat×List Value):=[(0,aIq.map fun(n:Nat)=>Value.int .u8 (n:Int))]
instance:Laid Tryz.prog:={mem:=Tryz.laid}
end
end Go.Proofs.YtaidcaemdkncgaaGreatDoor
namespace Go.Num
def val:List Nat→Nat
 |[]=>0
 |d::ds=>d+4294967296*val ds
def OkD (ds:List Nat):Prop:=∀ d∈ds,d<4294967296
theorem OkD.nil:OkD []:=by simp[OkD]
theorem OkD.cons {d:Nat}{ds:List Nat}(h:d<4294967296) (hs:OkD ds):OkD (d::ds):=by
 intro x hx;rcases List.mem_cons.1 hx with rfl |hx
 ·exact h
 ·exact hs x hx
theorem OkD.head {d:Nat}{ds:List Nat}(h:OkD (d::ds)):d<4294967296:=h d (by simp)
theorem OkD.tail {d:Nat}{ds:List Nat}(h:OkD (d::ds)):OkD ds:=fun x hx=>h x (by simp[hx])
theorem OkD.append {a b:List Nat}(ha:OkD a) (hb:OkD b):OkD (a++b):=fun x hx=>(List.mem_append.1 hx).elim (ha x) (hb x)
theorem OkD.take {a:List Nat}(ha:OkD a) (k:Nat):OkD (a.take k):=fun x hx=>ha x (List.mem_of_mem_take hx)
theorem OkD.drop {a:List Nat}(ha:OkD a) (k:Nat):OkD (a.drop k):=fun x hx=>ha x (List.mem_of_mem_drop hx)
theorem OkD.getD {a:List Nat}(ha:OkD a) (k:Nat):a.getD k 0<4294967296:=by
 rw[List.getD_eq_getElem?_getD]
 cases h:a[k]? with
 |none=>simp
 |some x=>exact ha x (List.mem_of_getElem? h)
theorem OkD.replicate (n:Nat):OkD (List.replicate n 0):=fun x hx=>by rw[(List.mem_replicate.1 hx).2];omega
theorem sB (a b:List Nat):val (a++b)=val a+4294967296^a.length*val b:=by
 induction a with
 |nil=>simp[val]
 |cons d a ih=>
  simp only[List.cons_append,val,ih,List.length_cons,Nat.pow_succ,Nat.mul_add];rw[← Nat.mul_assoc,Nat.mul_comm (4294967296^a.length) 4294967296];omega
theorem gM (n:Nat):val (List.replicate n 0)=0:=by
 induction n with
 |zero=>rfl
 |succ n ih=>simp[List.replicate_succ,val,ih]
theorem dM (a:List Nat) (d:Nat):val (a++[d])=val a+4294967296^a.length*d:=by
 rw[sB];simp[val]
theorem jJ {a:List Nat}(h:OkD a):val a<4294967296^a.length:=by
 induction a with
 |nil=>simp[val]
 |cons d a ih=>
  have h1:=ih h.tail;have h2:=h.head;simp only[val,List.length_cons,Nat.pow_succ];generalize 4294967296^a.length=p at h1;have:val a+1≤p:=h1;have:=Nat.mul_le_mul_left 4294967296 this;omega
theorem eP {a:List Nat}{k:Nat}(h:k<a.length):a.take (k+1)=a.take k++[a.getD k 0]:=by
 rw[List.take_succ_eq_append_getElem h];simp[List.getD,h]
theorem aHs {a:List Nat}{k:Nat}(h:k<a.length):val (a.take (k+1))=val (a.take k)+4294967296^k*a.getD k 0:=by
 rw[eP h,dM,List.length_take,Nat.min_eq_left (Nat.le_of_lt h)]
theorem jL (a:List Nat) (k:Nat) (h:k≤a.length):val a=val (a.take k)+4294967296^k*val (a.drop k):=by
 conv=>lhs;rw[← List.take_append_drop k a]
 rw[sB,List.length_take,Nat.min_eq_left h]
theorem fS {a:List Nat}{k:Nat}(h:k<a.length):a.drop k=a.getD k 0::a.drop (k+1):=by
 rw[List.drop_eq_getElem_cons h];simp[List.getD,h]
def aC (n:Nat):List Nat:=if n=0 then[]else n % 4294967296::aC (n / 4294967296)
termination_by n
decreasing_by omega
theorem bD:aC 0=[]:=by rw[aC];simp
theorem jV {n:Nat}(h:n≠0):aC n=n % 4294967296::aC (n / 4294967296):=by
 conv=>lhs;rw[aC]
 simp[h]
theorem eU {n:Nat}(h0:n≠0) (h:n<4294967296):aC n=[n]:=by
 rw[jV h0,Nat.div_eq_of_lt h,bD,Nat.mod_eq_of_lt h]
theorem aU (n:Nat):OkD (aC n):=by
 induction n using Nat.strongRecOn with
 |_ n ih=>
  by_cases h:n=0
  · subst h;rw[bD];exact OkD.nil
  · rw[jV h];exact OkD.cons (Nat.mod_lt _ (by omega)) (ih _ (by omega))
theorem aJ (n:Nat):val (aC n)=n:=by
 induction n using Nat.strongRecOn with
 |_ n ih=>
  by_cases h:n=0
  · subst h;rw[bD];rfl
  · rw[jV h,val,ih _ (by omega)];omega
theorem bR {n:Nat}:aC n=[]↔n=0:=by
 constructor
 ·intro h;have:=aJ n;rw[h]at this
  exact this.symm
 ·rintro rfl;exact bD
theorem xE:∀ {a:List Nat},val a=0→∀ d∈a,d=0
 |[],_,d,hd=>by simp at hd
 |x::a,h,d,hd=>by
  simp only[val]at h;rcases List.mem_cons.1 hd with rfl |hd
  · omega
  · exact xE (a:=a) (by omega) d hd
theorem qH:∀ {a:List Nat},OkD a→(∀ h:a≠[],a.getLast h≠0)→aC (val a)=a
 |[],_,_=>bD
 |d::a,hok,hl=>by
  have h2:=hok.head
  cases a with
  |nil=>
   have hd:d≠0:=by simpa using hl (by simp)
   simp only[val,Nat.mul_zero,Nat.add_zero]
   exact eU hd h2
  |cons e a=>
   have hl':∀ h:(e::a)≠[],(e::a).getLast h≠0:=fun h=>by
     have:=hl (by simp)
     rwa [List.getLast_cons h]at this
   have ih:=qH hok.tail hl';have hpos:val (e::a)≠0:=fun hz=>hl' (by simp) (xE hz _ (List.getLast_mem (by simp)))
   have hv:val (d::e::a)=d+4294967296*val (e::a):=rfl;rw[hv,jV (by omega),show(d+4294967296*val (e::a)) % 4294967296=d by omega,show(d+4294967296*val (e::a)) / 4294967296=val (e::a)by omega,ih]
def lW (ds:List Nat):List Nat:=(ds.reverse.dropWhile (· ==0)).reverse
theorem tN (ds:List Nat):lW (ds++[0])=lW ds:=by simp[lW]
theorem aE3 {ds:List Nat}{d:Nat}(h:d≠0):lW (ds++[d])=ds++[d]:=by simp[lW,h]
theorem tO {ds:List Nat}{k:Nat}(hk:k<ds.length) (h0:ds.getD k 0=0):lW (ds.take (k+1))=lW (ds.take k):=by
 rw[eP hk,h0,tN]
theorem xF {ds:List Nat}{k:Nat}(hk:k<ds.length) (h0:ds.getD k 0≠0):lW (ds.take (k+1))=ds.take (k+1):=by
 rw[eP hk,aE3 h0]
theorem aE4 {ds:List Nat}(h:OkD ds):lW ds=aC (val ds):=by
 have key:∀ (n:Nat) (ds:List Nat),ds.length=n→OkD ds→lW ds=aC (val ds):=by
  intro n
  induction n with
  |zero=>
   intro ds hl _;have:ds=[]:=List.eq_nil_of_length_eq_zero hl;subst this
   simp[lW,val,bD]
  |succ n ih=>
   intro ds hl hok;have e:ds=ds.take n++[ds.getD n 0]:=by rw[← eP (by omega),List.take_of_length_le (by omega)]
   by_cases h0:ds.getD n 0=0
   · rw[e,h0,tN,dM,Nat.mul_zero,Nat.add_zero];exact ih _ (by rw[List.length_take];omega) (hok.take n)
   · rw[e,aE3 h0,← e];refine(qH hok fun hne=> ?_).symm
     have:ds.getLast hne=ds.getD n 0:=by
       rw[List.getLast_eq_getElem];simp[List.getD,hl]
     rw[this];exact h0
 exact key _ ds rfl h
theorem bV {n k:Nat}(h:n<4294967296^k):(aC n).length≤k:=by
 induction k generalizing n with
 |zero=>
  have:n=0:=by simpa using h
  subst this;rw[bD];simp
 |succ k ih=>
  by_cases h0:n=0
  · subst h0;rw[bD];simp
  · rw[jV h0,List.length_cons]
    have:n / 4294967296<4294967296^k:=by
      rw[Nat.pow_succ]at h
      exact Nat.div_lt_of_lt_mul (by rw[Nat.mul_comm];exact h)
    have:=ih this;omega
theorem bN (n:Nat):n<4294967296^(aC n).length:=by
 have:=jJ (aU n)
 rwa [aJ]at this
theorem pI {n:Nat}(h:n≠0):4294967296^((aC n).length-1)≤n:=by
 rcases Nat.lt_or_ge n (4294967296^((aC n).length-1))with hlt |hge
 ·have h1:=bV hlt;have h2:(aC n).length≠0:=fun e=>h (bR.1 (List.eq_nil_of_length_eq_zero e))
  omega
 ·exact hge
theorem gB {n m:Nat}(h:(aC n).length<(aC m).length):n<m:=by
 have h0:m≠0:=fun e=>by subst e;rw[bD]at h;simp at h
 exact Nat.lt_of_lt_of_le (bN n) (Nat.le_trans (Nat.pow_le_pow_right (by omega) (by omega)) (pI h0))
theorem bM {n m:Nat}(h:n≤m):(aC n).length≤(aC m).length:=by
 rcases Nat.lt_or_ge (aC m).length (aC n).length with hlt |hge
 ·have:=gB hlt;omega
 ·exact hge
theorem uI {ds:List Nat}(h:OkD ds):(aC (val ds)).length≤ds.length:=bV (jJ h)
theorem aBh {n:Nat}(h:n≠0):(aC n).getD ((aC n).length-1) 0≠0:=by
 intro h0;have hlen:(aC n).length≠0:=fun e=>h (bR.1 (List.eq_nil_of_length_eq_zero e))
 have h1:=jL (aC n) ((aC n).length-1) (by omega);rw[fS (by omega),h0]at h1
 have h2:(aC n).drop ((aC n).length-1+1)=[]:=by simp;omega
 rw[h2,aJ]at h1
 simp only[val,Nat.mul_zero,Nat.add_zero]at h1;have h3:=jJ ((aU n).take ((aC n).length-1));have h4:=pI h;rw[List.length_take,Nat.min_eq_left (by omega)]at h3
 omega
def xS (n m:Nat):Int:=if n<m then -1 else if n=m then 0 else 1
theorem aKo {a b:List Nat}{k:Nat}(ha:OkD a) (hl:a.length=b.length) (hk:k<a.length) (hd:a.drop (k+1)=b.drop (k+1)) (hlt:a.getD k 0<b.getD k 0):val a<val b:=by
 have h1:=jL a k (by omega);have h2:=jL b k (by omega);rw[fS (by omega),val]at h1
 rw[fS (by omega),val,← hd]at h2
 have h3:=jJ (ha.take k);rw[List.length_take,Nat.min_eq_left (by omega)]at h3
 rw[h1,h2];generalize 4294967296^k=p at*;generalize val (List.drop (k+1) a)=q at*
 have h4:p*(a.getD k 0+4294967296*q)+p≤p*(b.getD k 0+4294967296*q):=by
  have:p*(a.getD k 0+4294967296*q)+p=p*(a.getD k 0+1+4294967296*q):=by
   rw[Nat.add_right_comm,Nat.mul_add p _ 1,Nat.mul_one]
  rw[this];exact Nat.mul_le_mul_left _ (by omega)
 omega
theorem aNv:∀ {a b:List Nat},OkD a→OkD b→a.length=b.length→val a=val b→a=b
 |[],[],_,_,_,_=>rfl
 |[],_::_,_,_,hl,_=>by simp at hl
 |_::_,[],_,_,hl,_=>by simp at hl
 |x::a,y::b,ha,hb,hl,hv=>by
  have h1:=ha.head;have h2:=hb.head;simp only[val]at hv;have:x=y:=by omega
  subst this;rw[aNv ha.tail hb.tail (by simpa using hl) (by omega)]
def jD:Nat→Nat→List Nat
 |0,_=>[]
 |k+1,v=>v % 4294967296::jD k (v / 4294967296)
theorem bO (k:Nat):∀ v,(jD k v).length=k:=by
 induction k with
 |zero=>intro v;rfl
 |succ k ih=>intro v;simp[jD,ih]
theorem fL (k:Nat):∀ v,OkD (jD k v):=by
 induction k with
 |zero=>intro v;exact OkD.nil
 |succ k ih=>intro v;exact OkD.cons (by omega) (ih _)
theorem eG {k:Nat}:∀ {v:Nat},v<4294967296^k→val (jD k v)=v:=by
 induction k with
 |zero=>intro v h;have:v=0:=by simpa using h
        subst this;rfl
 |succ k ih=>
  intro v h;rw[jD,val,ih (by rw[Nat.pow_succ]at h;omega)];omega
theorem gX {r:List Nat}{v k:Nat}(h:OkD r) (hl:r.length=k) (hv:val r=v):r=jD k v:=by
 subst hl;subst hv;exact aNv h (fL _ _) (bO _ _).symm (eG (jJ h)).symm
theorem aD (a:List Nat) (k:Nat):val (a.take (k+1))=val (a.take k)+4294967296^k*a.getD k 0:=by
 rcases Nat.lt_or_ge k a.length with h |h
 ·exact aHs h
 ·rw[List.take_of_length_le (by omega),List.take_of_length_le h];have:a.getD k 0=0:=by simp[List.getD,h]
  rw[this];omega
theorem cC {r:List Nat}{k d:Nat}(h:k<r.length):val ((r.set k d).take (k+1))=val (r.take k)+4294967296^k*d:=by
 rw[aD];have h1:(r.set k d).getD k 0=d:=by simp[List.getD,h]
 rw[h1];simp[List.take_set_of_le]
theorem OkD.set {r:List Nat}(h:OkD r) {k d:Nat}(hd:d<4294967296):OkD (r.set k d):=by
 intro x hx;rcases List.mem_or_eq_of_mem_set hx with hx |rfl
 ·exact h x hx
 ·exact hd
theorem iC {v p c A B x y s:Nat}(h:v+p*c=A+B) (hs:s=x+y+c):v+p*(s % 4294967296)+p*4294967296*(s / 4294967296)=(A+p*x)+(B+p*y):=by
 have h1:s % 4294967296+4294967296*(s / 4294967296)=x+y+c:=by omega
 have h2:p*(s % 4294967296)+p*4294967296*(s / 4294967296)=p*x+p*y+p*c:=by
  rw[Nat.mul_assoc,← Nat.mul_add,h1,Nat.mul_add,Nat.mul_add]
 omega
theorem jE {v p c c' A B x y d:Nat}(h:v+B=A+p*c) (hs:d+y+c=x+4294967296*c'):v+p*d+(B+p*y)=(A+p*x)+p*4294967296*c':=by
 have h2:p*d+p*y+p*c=p*x+p*4294967296*c':=by
  rw[Nat.mul_assoc,← Nat.mul_add,← Nat.mul_add,← Nat.mul_add,hs,Nat.mul_add]
 omega
theorem nH {x y:Nat}(hx:x<4294967296) (hy:y<4294967296):x*y≤18446744065119617025:=
 Nat.le_trans (Nat.mul_le_mul (show x≤4294967295 by omega) (show y≤4294967295 by omega)) (by omega)
theorem aE5 {v p c A q x y z X s:Nat}(h:v+p*q*c=A+p*x*X) (hs:s=x*y+z+c):v+p*q*(s % 4294967296)+p*q*4294967296*(s / 4294967296)=(A+p*q*z)+p*x*(X+q*y):=by
 have h1:s % 4294967296+4294967296*(s / 4294967296)=x*y+z+c:=by omega
 have h2:p*q*(s % 4294967296)+p*q*4294967296*(s / 4294967296)=p*q*(x*y)+p*q*z+p*q*c:=by
  rw[Nat.mul_assoc (p*q) 4294967296,← Nat.mul_add,h1,Nat.mul_add,Nat.mul_add]
 have h3:p*q*(x*y)=p*x*(q*y):=by ac_rfl
 rw[Nat.mul_add (p*x)];omega
theorem sD {a b:List Nat}{k:Nat}(h:a.drop k=b.drop k):a.getD k 0=b.getD k 0:=by
 have h1:(a.drop k).head? =(b.drop k).head? :=by rw[h]
 rw[List.head?_drop,List.head?_drop]at h1
 rw[List.getD_eq_getElem?_getD,List.getD_eq_getElem?_getD,h1]
theorem qI {r a:List Nat}{k d:Nat}(h:r.drop k=a.drop k):(r.set k d).drop (k+1)=a.drop (k+1):=by
 rw[List.drop_set_of_lt (by omega),← List.drop_drop,h,List.drop_drop]
theorem xG {q:List Nat}{k d:Nat}(h:k<q.length):(q.set k d).drop k=d::q.drop (k+1):=by
 rw[fS (by simpa using h)];have h1:(q.set k d).getD k 0=d:=by simp[List.getD,h]
 rw[h1,List.drop_set_of_lt (by omega)]
theorem aRm {H x d:Nat}(hd:0<d):(x+4294967296*H) / d=(H % d*4294967296+x) / d+4294967296*(H / d)∧(x+4294967296*H) % d=(H % d*4294967296+x) % d:=by
 have h1:x+4294967296*H=(H % d*4294967296+x)+d*(4294967296*(H / d)):=by
  have h2:d*(4294967296*(H / d))=4294967296*(d*(H / d)):=by ac_rfl
  have h3:=Nat.div_add_mod H d;rw[h2];omega
 rw[h1];exact⟨Nat.add_mul_div_left _ _ hd,Nat.add_mul_mod_self_left _ _ _⟩
theorem aIr {s:Nat}(h:s<32):∃ t,4294967296=2^s*t∧2^s*2≤4294967296:=by
 refine⟨2^(32-s),?_,?_⟩
 ·rw[← Nat.pow_add,show s+(32-s)=32 by omega]
 ·rw[← Nat.pow_succ];exact Nat.le_trans (Nat.pow_le_pow_right (by omega) (show s+1≤32 by omega)) (by omega)
theorem aKp {x s:Nat}(hx:x<4294967296) (hs:s<32):∃ y,x*2^s % 4294967296=2^s*y∧2^s*y+2^s≤4294967296∧x*2^s / 4294967296<2^s∧x*2^s<9223372036854775808:=by
 obtain⟨t,ht,hle⟩:=aIr hs;have hp:0<2^s:=Nat.pos_of_ne_zero (by simp)
 have h0:x*2^s % 4294967296=2^s*(x % t):=by
  conv=>lhs;rw[ht,Nat.mul_comm x]
  exact Nat.mul_mod_mul_left _ _ _
 have ht0:0<t:=by
  rcases Nat.eq_zero_or_pos t with h |h
  ·subst h;simp at ht
  ·exact h
 refine⟨x % t,h0,?_,?_,?_⟩
 ·have:=Nat.mul_le_mul_left (2^s) (show x % t+1≤t from Nat.mod_lt _ ht0);rw[← ht,Nat.mul_add,Nat.mul_one]at this
  exact this
 ·refine Nat.div_lt_of_lt_mul ?_;exact Nat.mul_lt_mul_of_pos_right hx hp
 ·have h1:2^s≤2147483648:=by omega
  have:=Nat.mul_le_mul (show x≤4294967295 by omega) h1;omega
theorem aRn {v q ri A p x y h z:Nat}(hv:v+q*ri=A*p) (hz:z=x*p) (hy:z % 4294967296=y) (hh:z / 4294967296=h):v+q*(ri+y)+q*4294967296*h=(A+q*x)*p:=by
 have h1:y+4294967296*h=x*p:=by omega
 rw[Nat.add_mul,← hv,Nat.mul_assoc q x,← h1,Nat.mul_add,Nat.mul_add,Nat.mul_assoc q];omega
theorem gP (a:List Nat) (i:Nat):val (a.drop i)=a.getD i 0+4294967296*val (a.drop (i+1)):=by
 rcases Nat.lt_or_ge i a.length with h |h
 ·rw[fS h,val]
 ·rw[List.drop_of_length_le h,List.drop_of_length_le (by omega)];have:a.getD i 0=0:=by simp[List.getD,h]
  rw[this];rfl
theorem aKq {a:List Nat}(ha:OkD a) {i:Nat}(hi:i≤a.length):val a / 4294967296^i=val (a.drop i):=by
 have h1:=jL a i hi;have h2:=jJ (ha.take i);rw[List.length_take,Nat.min_eq_left hi]at h2
 rw[h1,Nat.add_mul_div_left _ _ (by have:0<4294967296^i:=Nat.pow_pos (by omega)
                                    exact this),Nat.div_eq_of_lt h2,Nat.zero_add]
theorem aKr {a:List Nat}(ha:OkD a) {i s:Nat}(hi:i<a.length) (hs:s<32):
  (val a / 2^s) % 4294967296^(i+1)=(val a / 2^s) % 4294967296^i+4294967296^i*((a.getD (i+1) 0*4294967296+a.getD i 0) / 2^s % 4294967296):=by
 obtain⟨t,ht,_⟩:=aIr hs;have hp:0<2^s:=Nat.two_pow_pos s;rw[Nat.mod_pow_succ];congr 2;rw[Nat.div_div_eq_div_mul,Nat.mul_comm,← Nat.div_div_eq_div_mul,aKq ha (by omega),gP,gP]
 have h1:a.getD i 0+4294967296*(a.getD (i+1) 0+4294967296*val (a.drop (i+1+1)))=(a.getD (i+1) 0*4294967296+a.getD i 0)+2^s*(4294967296*(t*val (a.drop (i+1+1)))):=by
  have:2^s*(4294967296*(t*val (a.drop (i+1+1))))=(2^s*t)*4294967296*val (a.drop (i+1+1)):=by ac_rfl
  rw[this,← ht];omega
 rw[h1,Nat.add_mul_div_left _ _ hp,Nat.add_mul_mod_self_left]
end Go.Num
namespace Go.Proofs.YtaidcaemdkncgaaGreatDoor
section
open Go Go.Lg Go.Num
attribute [local irreducible] lrun lwp exThen exBlk keep goodPost
abbrev PGd (f:FuncId) (a:List LV) (r:LV):Prop:=cU Tryz.prog f a r
theorem aV:Tryz.prog.follows .mixedOrders=true:=by kernel_rfl
def u32 (n:Nat):LV:= .lit (.int .u32 (n:Int))
def u64 (n:Nat):LV:= .lit (.int .u64 (n:Int))
def i64 (n:Int):LV:= .lit (.int .i64 n)
def bl (b:Bool):LV:= .lit (.bool b)
def aO (z:Int):LV:= .agg [bl (decide (z<0)),dg (aC z.natAbs)]
theorem aNw (ds:List Nat) (hlen:ds.length≤1099511627776):PGd 164 [dg ds] (dg (lW ds)):=by
 refine aA aV Tryz.func164 rfl (by decide) (nt:=21) rfl (rs:=[.tmp 2]) rfl (aW rfl) ?_;refine aM ?_;refine aG (α:={k:Nat // k≤ds.length∧lW ds=lW (ds.take k)}) (fun k=>st 21 (lk [(0,.sl k.1 (dB (ds.take k.1))),(2,nilL)]) (cG []) 0) (fun k=>k.1) ⟨ds.length,Nat.le_refl _,by simp⟩ ?_ ?_
 ·exact zP0
 ·rintro⟨k,hk,ht⟩;simp only[st];rcases k with _ |k
  ·refine aM ?_;refine gZ ?_;refine iQ ?_;rw[ht];rfl
  ·have hg:(ds.take (k+1)).getD k 0=ds.getD k 0:=by simp[List.getD,List.getElem?_take]
   have hlen2:(ds.take (k+1)).length=k+1:=by rw[List.length_take];omega
   by_cases h0:ds.getD k 0=0
   ·have hd:(ds.take (k+1)).getD k 0=0:=by rw[hg,h0]
    refine aM ?_;refine⟨⟨k,by omega,by rw[ht,tO (by omega) h0]⟩,?_,Nat.lt_succ_self k⟩;exact zP0
   ·have hd:¬(ds.take (k+1)).getD k 0=0:=by rw[hg];exact h0
    refine aM ?_;refine gZ ?_;refine iQ ?_;rw[ht,xF (by omega) h0];simp[dg,Nat.min_eq_left hk]
theorem iS {ds:List Nat}(hok:OkD ds) (hlen:ds.length≤1099511627776):PGd 164 [dg ds] (dg (aC (val ds))):=by
 rw[← aE4 hok];exact aNw ds hlen
theorem nU {x y c:Nat}(hx:x<4294967296) (hy:y<4294967296) (hc:c<4294967296):
  PGd 304 [u32 x,u32 y,u32 c] (.tup [u32 ((x+y+c) % 4294967296),u32 ((x+y+c) / 4294967296)]):=by
 unfold u32;refine aA aV Tryz.func304 rfl (by decide) (nt:=22) rfl (rs:=[.tmp 6,.tmp 7]) rfl (aW rfl) ?_;refine aM ?_;refine gZ ?_;refine iQ ?_;simp only[Option.some.injEq,LV.tup.injEq,LV.agg.injEq,LV.sl.injEq,List.cons.injEq,LV.lit.injEq,Value.int.injEq,Value.bool.injEq,true_and,and_true,u32,u64,i64,bl,aN,dT];omega
theorem pJ {neg:Bool}{ds:List Nat}(hok:OkD ds) (hlen:ds.length≤1099511627776):
  PGd 209 [bl neg,dg ds] (aO (if neg then -(val ds:Int)else(val ds:Int))):=by
 unfold bl;refine aA aV Tryz.func209 rfl (by decide) (nt:=15) rfl (rs:=[.cell 4 45]) rfl (aW rfl) ?_;refine aM ?_;refine cQ (g:=(iS hok hlen)) (k:= ?_);refine aM ?_;have hl2:=uI hok
 cases neg with
 |false=>
  refine aM ?_;refine gZ ?_;refine iQ ?_
  simp[aO,bl,dg]
 |true=>
  refine aM ?_;refine gZ ?_;refine iQ ?_
  have e:(0<(aC (val ds)).length)↔0<val ds:=by
    rw[List.length_pos_iff,Ne,bR];omega
  simp[aO,bl,dg,e]
theorem aX5 (n:Int) (h: -9223372036854775808≤n∧n≤9223372036854775807):PGd 305 [i64 n] (i64 (if n<0 then -1 else if n=0 then 0 else 1)):=by
 unfold i64;refine aA aV Tryz.func305 rfl (by decide) (nt:=9) rfl (rs:=[.tmp 2]) rfl (aW rfl) ?_;by_cases h1:n<0
 ·refine aM ?_;refine gZ ?_;simp(disch:=first|omega|exact kD rfl|exact kX rfl) only[smY,simprocAttr,bl,u32,u64,i64];try simp[h1]
 ·by_cases h2:n=0
  ·subst h2;refine aM ?_;refine gZ ?_;simp(disch:=first|omega|exact kD rfl|exact kX rfl) only[smY,simprocAttr,bl,u32,u64,i64];try simp
  ·refine aM ?_;refine gZ ?_;refine iQ ?_;simp[h1,h2]
theorem kR (n:Nat) (h:n<18446744073709551616):PGd 210 [u64 n] (dg (aC n)):=by
 unfold u64;refine aA aV Tryz.func210 rfl (by decide) (nt:=18) rfl (rs:=[.tmp 2]) rfl (aW rfl) ?_;by_cases h1:n=0
 ·subst h1;refine aM ?_;refine gZ ?_;refine iQ ?_;rw[bD];rfl
 ·by_cases h2:n<4294967296
  ·refine aM ?_;refine gZ ?_;refine iQ ?_;rw[eU h1 h2];rfl
  ·refine aM ?_;refine gZ ?_;refine iQ ?_;rw[jV h1,eU (by omega) (by omega)];simp[dg,dB,aN]
end
section
open Go Go.Lg Go.Num
attribute [local irreducible] lrun lwp exThen exBlk keep goodPost
theorem aX6 {ds:List Nat}(hok:OkD ds) (hl:ds.length≤2):PGd 307 [dg ds] (u64 (val ds)):=by
 unfold u64
 match ds,hl with
 |[],_=>
  refine aA aV Tryz.func307 rfl (by decide) (nt:=23) rfl (rs:=[.tmp 2]) rfl (aW rfl) ?_;refine aM ?_;refine gZ ?_;refine iQ ?_
  rfl
 |[a],_=>
  have ha:=hok.head;refine aA aV Tryz.func307 rfl (by decide) (nt:=23) rfl (rs:=[.tmp 2]) rfl (aW rfl) ?_;refine aM ?_;refine gZ ?_
  simp[pv,dB,dT,val]
 |[a,b],_=>
  have ha:=hok.head;have hb:=hok.tail.head;refine aA aV Tryz.func307 rfl (by decide) (nt:=23) rfl (rs:=[.tmp 2]) rfl (aW rfl) ?_;simp only[dg,bBj,bIn,List.length_cons,List.length_nil,Nat.reduceAdd];refine aM ?_;refine gZ ?_;refine iQ ?_;simp[val];omega
theorem aX7 (P:List LV) (hP:P=[.lit (.slice none 0 0)]):PGd 255 P (dg []):=by
 subst hP;refine aA aV Tryz.func255 rfl (by decide) (nt:=8) rfl (rs:=[.tmp 2]) rfl (aW rfl) ?_;refine aM ?_;refine gZ ?_;refine iQ ?_;rfl
theorem aNx (a:Addr) (c:Nat):PGd 255 [.lit (.slice (some a) 0 c)] (dg []):=by
 refine aA aV Tryz.func255 rfl (by decide) (nt:=8) rfl (rs:=[.tmp 2]) rfl (aW rfl) ?_;refine aM ?_;refine gZ ?_;refine iQ ?_;rfl
theorem nZ (ds:List Nat) (hl:ds.length≤1099511627776):PGd 255 [dg ds] (dg ds):=by
 match ds,hl with
 |[],_=>exact aRd (aX7 _ rfl) aNx
 |d::ds,hl=>
  have h2:(d::ds).length=ds.length+1:=rfl;generalize d::ds=es at*;have h3:0<es.length:=by omega
  refine aA aV Tryz.func255 rfl (by decide) (nt:=8) rfl (rs:=[.tmp 2]) rfl (aW rfl) ?_;refine aM ?_;refine gZ ?_;refine iQ ?_;simp
theorem jW (n:Int) (h: -9223372036854775808≤n∧n≤9223372036854775807):PGd 123 [i64 n] (aO n):=by
 unfold i64;refine aA aV Tryz.func123 rfl (by decide) (nt:=14) rfl (rs:=[.cell 2 45]) rfl (aW rfl) ?_;have hl:(aC n.natAbs).length≤2:=bV (k:=2) (by omega);by_cases h1:n<0
 ·have e1:(18446744073709551616-n % 18446744073709551616)=(n.natAbs:Int):=by omega
  have e2:(0-n % 18446744073709551616) % 18446744073709551616=(n.natAbs:Int):=by omega
  refine aM ?_;simp only[dT,e2];refine cQ (g:=(kR n.natAbs (by omega))) (k:= ?_);simp only[↓reduceIte,List.nil_eq,reduceCtorEq];refine cQ (g:=(pJ (neg:=true) (aU n.natAbs) (by omega))) (k:= ?_);simp only[if_true];rw[aJ,show -((n.natAbs:Nat):Int)=n by omega];simp only[aO];refine aM ?_;exact lV
 ·obtain⟨k,rfl⟩:=Int.eq_ofNat_of_zero_le (by omega:0≤n);rw[Int.natAbs_natCast]at hl
  refine aM ?_;refine cQ (g:=(kR k (by omega))) (k:= ?_);refine cQ (g:=(pJ (neg:=false) (aU k) (by omega))) (k:= ?_);simp only[if_true,Bool.false_eq_true,if_false];rw[aJ];simp only[aO];refine aM ?_;exact lV
theorem sE {x y c:Nat}(hx:x<4294967296) (hy:y<4294967296) (hc:c≤1):
  PGd 306 [u32 x,u32 y,u32 c] (.tup [u32 ((x+8589934592-y-c) % 4294967296),u32 (if x<y+c then 1 else 0)]):=by
 unfold u32;refine aA aV Tryz.func306 rfl (by decide) (nt:=25) rfl (rs:=[.tmp 6,.tmp 7]) rfl (aW rfl) ?_;refine aM ?_;refine gZ ?_;refine iQ ?_;simp(disch:=omega) only[bAt,aA7,orI,aEz,IntKind.bits,Option.some.injEq,LV.tup.injEq,LV.lit.injEq,Value.int.injEq,List.cons.injEq,true_and,and_true];exact⟨aNs hx hy hc,aRi hx hy hc (aNs hx hy hc)⟩
theorem aKs {a b:List Nat}(ha:OkD a) (hb:OkD b) (hea:a=aC (val a)) (heb:b=aC (val b)) (la:a.length≤1099511627776) (lb:b.length≤1099511627776):
  PGd 282 [dg a,dg b] (i64 (xS (val a) (val b))):=by
 unfold i64;refine aA aV Tryz.func282 rfl (by decide) (nt:=42) rfl (rs:=[.tmp 4]) rfl (aW rfl) ?_;by_cases hl:a.length=b.length
 ·refine aM ?_;refine aG (α:={k:Nat // k≤a.length∧a.drop k=b.drop k}) (fun k=>st 42 (lk [(0,.sl a.length (dB a)),(1,.sl b.length (dB b)),(5,.lit (.int .i64 ((k.1:Int)-1)))]) (cG []) 0) (fun k=>k.1) ⟨a.length,Nat.le_refl _,by simp[hl]⟩ ?_ ?_
  ·exact zP0
  ·rintro⟨k,hk,he⟩;simp only[st];rcases k with _ |k
   ·refine aM ?_;refine gZ ?_;refine iQ ?_;have:a=b:=by simpa using he
    rw[this];simp[xS]
   ·have hkb:k<b.length:=by omega
    by_cases h1:a.getD k 0=b.getD k 0
    ·refine aM ?_;refine⟨⟨k,by omega,by rw[fS (by omega),fS hkb,he,h1]⟩,?_,Nat.lt_succ_self k⟩
     (refine Sub.plain ?_;simp only[aI,simprocAttr,bl,u32,u64,i64])
     (simp only[LV.lit.injEq,Value.int.injEq,true_and,and_true,dg,LV.sl.injEq];omega)
    ·by_cases h2:a.getD k 0<b.getD k 0
     ·refine aM ?_;refine gZ ?_;refine iQ ?_;have:=aKo ha hl (by omega) he h2;simp[xS,this]
     ·refine aM ?_;refine gZ ?_;refine iQ ?_;have:=aKo hb hl.symm hkb he.symm (by omega);have h3:¬val a<val b:=by omega
      have h4:¬val a=val b:=by omega
      simp[xS,h3,h4]
 ·have hl1:(a.length:Int)-b.length≠0:=by omega
  refine aM ?_;refine cQ (g:=(aX5 _ (by omega))) (k:= ?_);simp only[i64];refine aM ?_;refine gZ ?_;refine iQ ?_;by_cases h2:a.length<b.length
  ·have h3:val a<val b:=gB (by rw[← hea,← heb];exact h2);have h4:(a.length:Int)-b.length<0:=by omega
   simp[xS,h3,h4]
  ·have h3:val b<val a:=gB (by rw[← hea,← heb];omega);have h4:¬(a.length:Int)-b.length<0:=by omega
   have h5:¬val a<val b:=by omega
   have h6:¬val a=val b:=by omega
   simp only[xS,if_neg h4,if_neg hl1,if_neg h5,if_neg h6]
end
section
open Go Go.Lg Go.Num
attribute [local irreducible] lrun lwp exThen exBlk keep goodPost
theorem aX8 {a b:List Nat}(ha:OkD a) (hb:OkD b) (hl:b.length≤a.length) (hv:val b≤val a) (la:a.length≤1099511627776):
  PGd 283 [dg a,dg b] (dg (jD a.length (val a-val b))):=by
 refine aA aV Tryz.func283 rfl (by decide) (nt:=40) rfl (rs:=[.tmp 4]) rfl (aW rfl) ?_;refine aM ?_
 refine aG (α:={p:Nat×List Nat×Nat // p.1≤a.length∧p.2.1.length=a.length∧OkD p.2.1∧p.2.2≤1∧val (p.2.1.take p.1)+val (b.take p.1)=val (a.take p.1)+4294967296^p.1*p.2.2})
  (fun p=>st 40 (lk [(0,dg a),(1,dg b),(5,.own 0 0 a.length 1),(6,u32 p.1.2.2),(13,dg a),(14,i64 a.length),(15,i64 p.1.1)]) (cG [(0,⟨185,dB p.1.2.1,false⟩)]) 1) (fun p=>a.length-p.1.1) ⟨(0,List.replicate a.length 0,0),by simp,by simp,OkD.replicate _,by simp,by simp[val]⟩ ?_ ?_
 ·(refine Sub.heap1 3 ?_ (by simp only[aI,simprocAttr,bl,u32,u64,i64];exact rfl) ?_ ?_;all_goals(first |exact aE _ |with_reducible rfl |(simp only[aI,simprocAttr,bl,u32,u64,i64])|skip))
  exact iR _
 ·rintro⟨⟨k,r,c⟩,hk,hr,hor,hc,he⟩;simp only at hk hr hc he hor;simp only[st];have hx:=ha.getD k;have hy:=hb.getD k;by_cases h1:k<a.length
  ·by_cases h2:k<b.length
   ·refine aM ?_;refine cQ (g:=(sE hx hy hc)) (k:= ?_);simp only[u32];refine aM ?_;refine⟨⟨(k+1,r.set k ((a.getD k 0+8589934592-b.getD k 0-c) % 4294967296),if a.getD k 0<b.getD k 0+c then 1 else 0),by simp only;omega,by simp[hr],hor.set (by omega),by simp only;split <;>omega,?_⟩,?_,by simp only;omega⟩
    ·simp only;rw[cC (by omega),aD,aD,Nat.pow_succ];exact jE he (by split <;>omega)
    ·exact zO0 0
   ·have hy0:b.getD k 0=0:=by simp[List.getD,Nat.le_of_not_lt h2]
    refine aM ?_;refine cQ (g:=(sE (y:=0) hx (by omega) hc)) (k:= ?_);simp only[u32];refine aM ?_;refine⟨⟨(k+1,r.set k ((a.getD k 0+8589934592-0-c) % 4294967296),if a.getD k 0<0+c then 1 else 0),by simp only;omega,by simp[hr],hor.set (by omega),by simp only;split <;>omega,?_⟩,?_,by simp only;omega⟩
    ·simp only;rw[cC (by omega),aD,aD,Nat.pow_succ,hy0];exact jE he (by split <;>omega)
    ·exact zO0 0
  ·refine aM ?_;refine gZ ?_;refine iQ ?_;have hka:k=a.length:=by omega
   subst hka;rw[List.take_of_length_le (Nat.le_of_eq hr)]at he⊢
   rw[List.take_of_length_le hl,List.take_of_length_le (Nat.le_refl _)]at he
   have hvr:=jJ hor;rw[hr]at hvr
   have hc0:c=0:=by
    rcases Nat.eq_zero_or_pos c with h |h
    ·exact h
    ·have:c=1:=by omega
     subst this;omega
   subst hc0;rw[← gX hor hr (show val r=val a-val b by omega)];simp[hr]
def aIs (a b:List Nat):List Nat:=jD (max a.length b.length+1) (val a+val b)
theorem aX9 {a b:List Nat}(ha:OkD a) (hb:OkD b) (la:a.length≤1099511627776) (lb:b.length≤1099511627776):
  PGd 281 [dg a,dg b] (dg (aIs a b)):=by
 refine aA aV Tryz.func281 rfl (by decide) (nt:=53) rfl (rs:=[.tmp 4]) rfl (aW rfl) ?_;by_cases hab:a.length<b.length
 ·have hle:=Nat.le_of_lt hab;rw[aIs,Nat.max_eq_right hle,Nat.add_comm (val a)];refine aM ?_
  refine aG (α:={p:Nat×List Nat×Nat // p.1≤b.length∧p.2.1.length=b.length+1∧OkD p.2.1∧p.2.2≤1∧val (p.2.1.take p.1)+4294967296^p.1*p.2.2=val (b.take p.1)+val (a.take p.1)})
   (fun p=>st 53 (lk [(0,dg b),(1,dg a),(5,.own 0 0 (b.length+1) 1),(6,u32 p.1.2.2),(21,dg b),(22,i64 b.length),(23,i64 p.1.1)]) (cG [(0,⟨185,dB p.1.2.1,false⟩)]) 1) (fun p=>b.length-p.1.1) ⟨(0,List.replicate (b.length+1) 0,0),by simp,by simp,OkD.replicate _,by simp,by simp[val]⟩ ?_ ?_
  ·(refine Sub.heap1 13 ?_ (by simp only[aI,simprocAttr,bl,u32,u64,i64];exact rfl) ?_ ?_;all_goals(first |exact aE _ |with_reducible rfl |(simp only[aI,simprocAttr,bl,u32,u64,i64])|skip))
   exact iR _
  ·rintro⟨⟨k,r,c⟩,hk,hr,hor,hc,he⟩;simp only at hk hr hc he hor;simp only[st];have hx:=hb.getD k;have hy:=ha.getD k;by_cases h1:k<b.length
   ·by_cases h2:k<a.length
    ·refine aM ?_;refine cQ (g:=(nU hx hy (by omega))) (k:= ?_);simp only[u32];refine aM ?_;refine⟨⟨(k+1,r.set k ((b.getD k 0+a.getD k 0+c) % 4294967296),(b.getD k 0+a.getD k 0+c) / 4294967296),by simp only;omega,by simp[hr],hor.set (by omega),by simp only;omega,?_⟩,?_,by simp only;omega⟩
     ·simp only;rw[cC (by omega),aD,aD,Nat.pow_succ];exact iC he rfl
     ·exact zO0 0
    ·have hy0:a.getD k 0=0:=by simp[List.getD,Nat.le_of_not_lt h2]
     refine aM ?_;refine cQ (g:=(nU (y:=0) hx (by omega) (by omega))) (k:= ?_);simp only[u32];refine aM ?_;refine⟨⟨(k+1,r.set k ((b.getD k 0+0+c) % 4294967296),(b.getD k 0+0+c) / 4294967296),by simp only;omega,by simp[hr],hor.set (by omega),by simp only;omega,?_⟩,?_,by simp only;omega⟩
     ·simp only;rw[cC (by omega),aD,aD,Nat.pow_succ,hy0];exact iC he rfl
     ·exact zO0 0
   ·have hka:k=b.length:=by omega
    subst hka;refine aM ?_;refine gZ ?_;refine iQ ?_
    have h4:val ((r.set b.length c).take (b.length+1))=val b+val a:=by
     rw[cC (by omega),he,List.take_of_length_le (Nat.le_refl _),List.take_of_length_le hle]
    rw[List.take_of_length_le (by simp[hr])]at h4
    rw[List.take_of_length_le (by simp[hr])];rw[gX (k:=b.length+1) (hor.set (k:=b.length) (d:=c) (by omega)) (by simp[hr]) h4];simp[bO]
 ·have hle:=Nat.le_of_not_lt hab;rw[aIs,Nat.max_eq_left hle];refine aM ?_
  refine aG (α:={p:Nat×List Nat×Nat // p.1≤a.length∧p.2.1.length=a.length+1∧OkD p.2.1∧p.2.2≤1∧val (p.2.1.take p.1)+4294967296^p.1*p.2.2=val (a.take p.1)+val (b.take p.1)})
   (fun p=>st 53 (lk [(0,dg a),(1,dg b),(5,.own 0 0 (a.length+1) 1),(6,u32 p.1.2.2),(21,dg a),(22,i64 a.length),(23,i64 p.1.1)]) (cG [(0,⟨185,dB p.1.2.1,false⟩)]) 1) (fun p=>a.length-p.1.1) ⟨(0,List.replicate (a.length+1) 0,0),by simp,by simp,OkD.replicate _,by simp,by simp[val]⟩ ?_ ?_
  ·(refine Sub.heap1 9 ?_ (by simp only[aI,simprocAttr,bl,u32,u64,i64];exact rfl) ?_ ?_;all_goals(first |exact aE _ |with_reducible rfl |(simp only[aI,simprocAttr,bl,u32,u64,i64])|skip))
   exact iR _
  ·rintro⟨⟨k,r,c⟩,hk,hr,hor,hc,he⟩;simp only at hk hr hc he hor;simp only[st];have hx:=ha.getD k;have hy:=hb.getD k;by_cases h1:k<a.length
   ·by_cases h2:k<b.length
    ·refine aM ?_;refine cQ (g:=(nU hx hy (by omega))) (k:= ?_);simp only[u32];refine aM ?_;refine⟨⟨(k+1,r.set k ((a.getD k 0+b.getD k 0+c) % 4294967296),(a.getD k 0+b.getD k 0+c) / 4294967296),by simp only;omega,by simp[hr],hor.set (by omega),by simp only;omega,?_⟩,?_,by simp only;omega⟩
     ·simp only;rw[cC (by omega),aD,aD,Nat.pow_succ];exact iC he rfl
     ·exact zO0 0
    ·have hy0:b.getD k 0=0:=by simp[List.getD,Nat.le_of_not_lt h2]
     refine aM ?_;refine cQ (g:=(nU (y:=0) hx (by omega) (by omega))) (k:= ?_);simp only[u32];refine aM ?_;refine⟨⟨(k+1,r.set k ((a.getD k 0+0+c) % 4294967296),(a.getD k 0+0+c) / 4294967296),by simp only;omega,by simp[hr],hor.set (by omega),by simp only;omega,?_⟩,?_,by simp only;omega⟩
     ·simp only;rw[cC (by omega),aD,aD,Nat.pow_succ,hy0];exact iC he rfl
     ·exact zO0 0
   ·have hka:k=a.length:=by omega
    subst hka;refine aM ?_;refine gZ ?_;refine iQ ?_
    have h4:val ((r.set a.length c).take (a.length+1))=val a+val b:=by
     rw[cC (by omega),he,List.take_of_length_le (Nat.le_refl _),List.take_of_length_le hle]
    rw[List.take_of_length_le (by simp[hr])]at h4
    rw[List.take_of_length_le (by simp[hr])];rw[gX (k:=a.length+1) (hor.set (k:=a.length) (d:=c) (by omega)) (by simp[hr]) h4];simp[bO]
end
end Go.Proofs.YtaidcaemdkncgaaGreatDoor
