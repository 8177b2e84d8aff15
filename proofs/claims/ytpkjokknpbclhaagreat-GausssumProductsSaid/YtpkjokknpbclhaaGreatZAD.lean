/- Contracts of functions of the program, and what proves them (texts: BTy Inst Num B1 B2 B3). -/
import Derived.Test.YtpkjokknpbclhaaGreatProg
import Derived.KernelRfl
import Derived.Test.YtpkjokknpbclhaaGreatZAC
set_option linter.all false
namespace Go.Proofs.YtpkjokknpbclhaaGreat
open Go Go.Lg
set_option maxRecDepth 100000
theorem tsz2 : sizeL Tryz.prog 2 = some 1 := by kernel_rfl
theorem tby2 : bytesL Tryz.prog 2 = some 8 := by kernel_rfl
theorem tag2 : isAggL Tryz.prog 2 = some false := by kernel_rfl
theorem tze2 : zeroL Tryz.prog 2 = some [(.lit (.int .i64 0))] := by kernel_rfl
theorem tpl2 : placesL Tryz.prog 2 = none := by kernel_rfl
theorem tar2 : arrL Tryz.prog 2 = none := by kernel_rfl
theorem tel2 : elemL Tryz.prog 2 = none := by kernel_rfl
theorem tki2 : kindL Tryz.prog 2 = some .i64 := by kernel_rfl
theorem tsz3 : sizeL Tryz.prog 3 = some 1 := by kernel_rfl
theorem tby3 : bytesL Tryz.prog 3 = some 8 := by kernel_rfl
theorem tag3 : isAggL Tryz.prog 3 = some false := by kernel_rfl
theorem tze3 : zeroL Tryz.prog 3 = some [(.lit (.int .i64 0))] := by kernel_rfl
theorem tpl3 : placesL Tryz.prog 3 = none := by kernel_rfl
theorem tar3 : arrL Tryz.prog 3 = none := by kernel_rfl
theorem tel3 : elemL Tryz.prog 3 = none := by kernel_rfl
theorem tki3 : kindL Tryz.prog 3 = some .i64 := by kernel_rfl
theorem tsz4 : sizeL Tryz.prog 4 = some 1 := by kernel_rfl
theorem tby4 : bytesL Tryz.prog 4 = some 1 := by kernel_rfl
theorem tag4 : isAggL Tryz.prog 4 = some false := by kernel_rfl
theorem tze4 : zeroL Tryz.prog 4 = some [(.lit (.bool false))] := by kernel_rfl
theorem tbo4 : boolL Tryz.prog 4 = true := by kernel_rfl
theorem tpl4 : placesL Tryz.prog 4 = none := by kernel_rfl
theorem tar4 : arrL Tryz.prog 4 = none := by kernel_rfl
theorem tel4 : elemL Tryz.prog 4 = none := by kernel_rfl
theorem tsz5 : sizeL Tryz.prog 5 = some 1 := by kernel_rfl
theorem tby5 : bytesL Tryz.prog 5 = some 1 := by kernel_rfl
theorem tag5 : isAggL Tryz.prog 5 = some false := by kernel_rfl
theorem tze5 : zeroL Tryz.prog 5 = some [(.lit (.int .u8 0))] := by kernel_rfl
theorem tpl5 : placesL Tryz.prog 5 = none := by kernel_rfl
theorem tar5 : arrL Tryz.prog 5 = none := by kernel_rfl
theorem tel5 : elemL Tryz.prog 5 = none := by kernel_rfl
theorem tki5 : kindL Tryz.prog 5 = some .u8 := by kernel_rfl
theorem tsz9 : sizeL Tryz.prog 9 = some 1 := by kernel_rfl
theorem tby9 : bytesL Tryz.prog 9 = some 16 := by kernel_rfl
theorem tag9 : isAggL Tryz.prog 9 = some false := by kernel_rfl
theorem tze9 : zeroL Tryz.prog 9 = some [(.lit (.string ByteArray.empty))] := by kernel_rfl
theorem tpl9 : placesL Tryz.prog 9 = none := by kernel_rfl
theorem tar9 : arrL Tryz.prog 9 = none := by kernel_rfl
theorem tel9 : elemL Tryz.prog 9 = none := by kernel_rfl
theorem tsz12 : sizeL Tryz.prog 12 = some 1 := by kernel_rfl
theorem tby12 : bytesL Tryz.prog 12 = some 8 := by kernel_rfl
theorem tag12 : isAggL Tryz.prog 12 = some false := by kernel_rfl
theorem tze12 : zeroL Tryz.prog 12 = some [(.lit (.int .u64 0))] := by kernel_rfl
theorem tpl12 : placesL Tryz.prog 12 = none := by kernel_rfl
theorem tar12 : arrL Tryz.prog 12 = none := by kernel_rfl
theorem tel12 : elemL Tryz.prog 12 = none := by kernel_rfl
theorem tki12 : kindL Tryz.prog 12 = some .u64 := by kernel_rfl
theorem tsz13 : sizeL Tryz.prog 13 = some 2 := by kernel_rfl
theorem tby13 : bytesL Tryz.prog 13 = some 24 := by kernel_rfl
theorem tag13 : isAggL Tryz.prog 13 = some true := by kernel_rfl
theorem tze13 : zeroL Tryz.prog 13 = some [(.lit (.string ByteArray.empty)),(.lit (.int .u64 0))] := by kernel_rfl
theorem tpl13 : placesL Tryz.prog 13 = some [(0,1),(1,1)] := by kernel_rfl
theorem tar13 : arrL Tryz.prog 13 = none := by kernel_rfl
theorem tel13 : elemL Tryz.prog 13 = none := by kernel_rfl
theorem tfi13x0 : fieldL Tryz.prog 13 0 = some (0,9) := by kernel_rfl
theorem tfi13x1 : fieldL Tryz.prog 13 1 = some (1,12) := by kernel_rfl
theorem tsz21 : sizeL Tryz.prog 21 = some 1 := by kernel_rfl
theorem tby21 : bytesL Tryz.prog 21 = some 4 := by kernel_rfl
theorem tag21 : isAggL Tryz.prog 21 = some false := by kernel_rfl
theorem tze21 : zeroL Tryz.prog 21 = some [(.lit (.int .i32 0))] := by kernel_rfl
theorem tpl21 : placesL Tryz.prog 21 = none := by kernel_rfl
theorem tar21 : arrL Tryz.prog 21 = none := by kernel_rfl
theorem tel21 : elemL Tryz.prog 21 = none := by kernel_rfl
theorem tki21 : kindL Tryz.prog 21 = some .i32 := by kernel_rfl
theorem tsz22 : sizeL Tryz.prog 22 = some 1 := by kernel_rfl
theorem tby22 : bytesL Tryz.prog 22 = some 24 := by kernel_rfl
theorem tag22 : isAggL Tryz.prog 22 = some false := by kernel_rfl
theorem tze22 : zeroL Tryz.prog 22 = some [(.lit (.slice none 0 0))] := by kernel_rfl
theorem tpl22 : placesL Tryz.prog 22 = none := by kernel_rfl
theorem tar22 : arrL Tryz.prog 22 = none := by kernel_rfl
theorem tel22 : elemL Tryz.prog 22 = some 3 := by kernel_rfl
theorem tsz23 : sizeL Tryz.prog 23 = some 2 := by kernel_rfl
theorem tby23 : bytesL Tryz.prog 23 = some 32 := by kernel_rfl
theorem tag23 : isAggL Tryz.prog 23 = some true := by kernel_rfl
theorem tze23 : zeroL Tryz.prog 23 = some [(.lit (.int .i64 0)),(.lit (.slice none 0 0))] := by kernel_rfl
theorem tpl23 : placesL Tryz.prog 23 = some [(0,1),(1,1)] := by kernel_rfl
theorem tar23 : arrL Tryz.prog 23 = none := by kernel_rfl
theorem tel23 : elemL Tryz.prog 23 = none := by kernel_rfl
theorem tfi23x0 : fieldL Tryz.prog 23 0 = some (0,3) := by kernel_rfl
theorem tfi23x1 : fieldL Tryz.prog 23 1 = some (1,22) := by kernel_rfl
theorem tsz24 : sizeL Tryz.prog 24 = some 2 := by kernel_rfl
theorem tby24 : bytesL Tryz.prog 24 = some 32 := by kernel_rfl
theorem tag24 : isAggL Tryz.prog 24 = some true := by kernel_rfl
theorem tze24 : zeroL Tryz.prog 24 = some [(.lit (.int .i64 0)),(.lit (.slice none 0 0))] := by kernel_rfl
theorem tpl24 : placesL Tryz.prog 24 = some [(0,1),(1,1)] := by kernel_rfl
theorem tar24 : arrL Tryz.prog 24 = none := by kernel_rfl
theorem tel24 : elemL Tryz.prog 24 = none := by kernel_rfl
theorem tfi24x0 : fieldL Tryz.prog 24 0 = some (0,3) := by kernel_rfl
theorem tfi24x1 : fieldL Tryz.prog 24 1 = some (1,22) := by kernel_rfl
theorem tsz27 : sizeL Tryz.prog 27 = some 1 := by kernel_rfl
theorem tby27 : bytesL Tryz.prog 27 = some 24 := by kernel_rfl
theorem tag27 : isAggL Tryz.prog 27 = some false := by kernel_rfl
theorem tze27 : zeroL Tryz.prog 27 = some [(.lit (.slice none 0 0))] := by kernel_rfl
theorem tpl27 : placesL Tryz.prog 27 = none := by kernel_rfl
theorem tar27 : arrL Tryz.prog 27 = none := by kernel_rfl
theorem tel27 : elemL Tryz.prog 27 = some 68 := by kernel_rfl
theorem tsz28 : sizeL Tryz.prog 28 = some 1 := by kernel_rfl
theorem tby28 : bytesL Tryz.prog 28 = some 24 := by kernel_rfl
theorem tag28 : isAggL Tryz.prog 28 = some false := by kernel_rfl
theorem tze28 : zeroL Tryz.prog 28 = some [(.lit (.slice none 0 0))] := by kernel_rfl
theorem tpl28 : placesL Tryz.prog 28 = none := by kernel_rfl
theorem tar28 : arrL Tryz.prog 28 = none := by kernel_rfl
theorem tel28 : elemL Tryz.prog 28 = some 68 := by kernel_rfl
theorem tsz29 : sizeL Tryz.prog 29 = some 1 := by kernel_rfl
theorem tby29 : bytesL Tryz.prog 29 = some 8 := by kernel_rfl
theorem tag29 : isAggL Tryz.prog 29 = some false := by kernel_rfl
theorem tze29 : zeroL Tryz.prog 29 = some [(.lit (.int .i64 0))] := by kernel_rfl
theorem tpl29 : placesL Tryz.prog 29 = none := by kernel_rfl
theorem tar29 : arrL Tryz.prog 29 = none := by kernel_rfl
theorem tel29 : elemL Tryz.prog 29 = none := by kernel_rfl
theorem tki29 : kindL Tryz.prog 29 = some .i64 := by kernel_rfl
theorem tsz43 : sizeL Tryz.prog 43 = some 3 := by kernel_rfl
theorem tby43 : bytesL Tryz.prog 43 = some 72 := by kernel_rfl
theorem tag43 : isAggL Tryz.prog 43 = some true := by kernel_rfl
theorem tze43 : zeroL Tryz.prog 43 = some [(.lit (.slice none 0 0)),(.lit (.slice none 0 0)),(.lit (.slice none 0 0))] := by kernel_rfl
theorem tpl43 : placesL Tryz.prog 43 = none := by kernel_rfl
theorem tel43 : elemL Tryz.prog 43 = none := by kernel_rfl
theorem tar43 : arrL Tryz.prog 43 = some (3,28) := by kernel_rfl
theorem tsz44 : sizeL Tryz.prog 44 = some 6 := by kernel_rfl
theorem tby44 : bytesL Tryz.prog 44 = some 96 := by kernel_rfl
theorem tag44 : isAggL Tryz.prog 44 = some true := by kernel_rfl
theorem tze44 : zeroL Tryz.prog 44 = some [(.lit (.int .i64 0)),(.lit (.slice none 0 0)),(.lit (.int .i64 0)),(.lit (.slice none 0 0)),(.lit (.int .i64 0)),(.lit (.slice none 0 0))] := by kernel_rfl
theorem tpl44 : placesL Tryz.prog 44 = none := by kernel_rfl
theorem tel44 : elemL Tryz.prog 44 = none := by kernel_rfl
theorem tar44 : arrL Tryz.prog 44 = some (3,24) := by kernel_rfl
theorem tsz50 : sizeL Tryz.prog 50 = some 1 := by kernel_rfl
theorem tby50 : bytesL Tryz.prog 50 = some 24 := by kernel_rfl
theorem tag50 : isAggL Tryz.prog 50 = some false := by kernel_rfl
theorem tze50 : zeroL Tryz.prog 50 = some [(.lit (.slice none 0 0))] := by kernel_rfl
theorem tpl50 : placesL Tryz.prog 50 = none := by kernel_rfl
theorem tar50 : arrL Tryz.prog 50 = none := by kernel_rfl
theorem tel50 : elemL Tryz.prog 50 = some 3 := by kernel_rfl
theorem tsz51 : sizeL Tryz.prog 51 = some 3 := by kernel_rfl
theorem tby51 : bytesL Tryz.prog 51 = some 24 := by kernel_rfl
theorem tag51 : isAggL Tryz.prog 51 = some true := by kernel_rfl
theorem tze51 : zeroL Tryz.prog 51 = some [(.lit (.bool false)),(.lit (.int .i64 0)),(.lit (.int .i64 0))] := by kernel_rfl
theorem tpl51 : placesL Tryz.prog 51 = some [(0,1),(1,1),(2,1)] := by kernel_rfl
theorem tar51 : arrL Tryz.prog 51 = none := by kernel_rfl
theorem tel51 : elemL Tryz.prog 51 = none := by kernel_rfl
theorem tfi51x0 : fieldL Tryz.prog 51 0 = some (0,4) := by kernel_rfl
theorem tfi51x1 : fieldL Tryz.prog 51 1 = some (1,3) := by kernel_rfl
theorem tfi51x2 : fieldL Tryz.prog 51 2 = some (2,3) := by kernel_rfl
theorem tsz52 : sizeL Tryz.prog 52 = some 3 := by kernel_rfl
theorem tby52 : bytesL Tryz.prog 52 = some 24 := by kernel_rfl
theorem tag52 : isAggL Tryz.prog 52 = some true := by kernel_rfl
theorem tze52 : zeroL Tryz.prog 52 = some [(.lit (.bool false)),(.lit (.int .i64 0)),(.lit (.int .i64 0))] := by kernel_rfl
theorem tpl52 : placesL Tryz.prog 52 = some [(0,1),(1,1),(2,1)] := by kernel_rfl
theorem tar52 : arrL Tryz.prog 52 = none := by kernel_rfl
theorem tel52 : elemL Tryz.prog 52 = none := by kernel_rfl
theorem tfi52x0 : fieldL Tryz.prog 52 0 = some (0,4) := by kernel_rfl
theorem tfi52x1 : fieldL Tryz.prog 52 1 = some (1,3) := by kernel_rfl
theorem tfi52x2 : fieldL Tryz.prog 52 2 = some (2,3) := by kernel_rfl
theorem tsz64 : sizeL Tryz.prog 64 = some 1 := by kernel_rfl
theorem tby64 : bytesL Tryz.prog 64 = some 24 := by kernel_rfl
theorem tag64 : isAggL Tryz.prog 64 = some false := by kernel_rfl
theorem tze64 : zeroL Tryz.prog 64 = some [(.lit (.slice none 0 0))] := by kernel_rfl
theorem tpl64 : placesL Tryz.prog 64 = none := by kernel_rfl
theorem tar64 : arrL Tryz.prog 64 = none := by kernel_rfl
theorem tel64 : elemL Tryz.prog 64 = some 122 := by kernel_rfl
theorem tsz65 : sizeL Tryz.prog 65 = some 2 := by kernel_rfl
theorem tby65 : bytesL Tryz.prog 65 = some 32 := by kernel_rfl
theorem tag65 : isAggL Tryz.prog 65 = some true := by kernel_rfl
theorem tze65 : zeroL Tryz.prog 65 = some [(.lit (.bool false)),(.lit (.slice none 0 0))] := by kernel_rfl
theorem tpl65 : placesL Tryz.prog 65 = some [(0,1),(1,1)] := by kernel_rfl
theorem tar65 : arrL Tryz.prog 65 = none := by kernel_rfl
theorem tel65 : elemL Tryz.prog 65 = none := by kernel_rfl
theorem tfi65x0 : fieldL Tryz.prog 65 0 = some (0,4) := by kernel_rfl
theorem tfi65x1 : fieldL Tryz.prog 65 1 = some (1,64) := by kernel_rfl
theorem tsz66 : sizeL Tryz.prog 66 = some 2 := by kernel_rfl
theorem tby66 : bytesL Tryz.prog 66 = some 32 := by kernel_rfl
theorem tag66 : isAggL Tryz.prog 66 = some true := by kernel_rfl
theorem tze66 : zeroL Tryz.prog 66 = some [(.lit (.bool false)),(.lit (.slice none 0 0))] := by kernel_rfl
theorem tpl66 : placesL Tryz.prog 66 = some [(0,1),(1,1)] := by kernel_rfl
theorem tar66 : arrL Tryz.prog 66 = none := by kernel_rfl
theorem tel66 : elemL Tryz.prog 66 = none := by kernel_rfl
theorem tfi66x0 : fieldL Tryz.prog 66 0 = some (0,4) := by kernel_rfl
theorem tfi66x1 : fieldL Tryz.prog 66 1 = some (1,64) := by kernel_rfl
theorem tsz67 : sizeL Tryz.prog 67 = some 4 := by kernel_rfl
theorem tby67 : bytesL Tryz.prog 67 = some 64 := by kernel_rfl
theorem tag67 : isAggL Tryz.prog 67 = some true := by kernel_rfl
theorem tze67 : zeroL Tryz.prog 67 = some [(.lit (.bool false)),(.lit (.slice none 0 0)),(.lit (.bool false)),(.lit (.slice none 0 0))] := by kernel_rfl
theorem tpl67 : placesL Tryz.prog 67 = some [(0,2),(2,2)] := by kernel_rfl
theorem tar67 : arrL Tryz.prog 67 = none := by kernel_rfl
theorem tel67 : elemL Tryz.prog 67 = none := by kernel_rfl
theorem tfi67x0 : fieldL Tryz.prog 67 0 = some (0,66) := by kernel_rfl
theorem tfi67x1 : fieldL Tryz.prog 67 1 = some (2,66) := by kernel_rfl
theorem tsz68 : sizeL Tryz.prog 68 = some 4 := by kernel_rfl
theorem tby68 : bytesL Tryz.prog 68 = some 64 := by kernel_rfl
theorem tag68 : isAggL Tryz.prog 68 = some true := by kernel_rfl
theorem tze68 : zeroL Tryz.prog 68 = some [(.lit (.bool false)),(.lit (.slice none 0 0)),(.lit (.bool false)),(.lit (.slice none 0 0))] := by kernel_rfl
theorem tpl68 : placesL Tryz.prog 68 = some [(0,2),(2,2)] := by kernel_rfl
theorem tar68 : arrL Tryz.prog 68 = none := by kernel_rfl
theorem tel68 : elemL Tryz.prog 68 = none := by kernel_rfl
theorem tfi68x0 : fieldL Tryz.prog 68 0 = some (0,66) := by kernel_rfl
theorem tfi68x1 : fieldL Tryz.prog 68 1 = some (2,66) := by kernel_rfl
theorem tsz74 : sizeL Tryz.prog 74 = some 1 := by kernel_rfl
theorem tby74 : bytesL Tryz.prog 74 = some 24 := by kernel_rfl
theorem tag74 : isAggL Tryz.prog 74 = some false := by kernel_rfl
theorem tze74 : zeroL Tryz.prog 74 = some [(.lit (.slice none 0 0))] := by kernel_rfl
theorem tpl74 : placesL Tryz.prog 74 = none := by kernel_rfl
theorem tar74 : arrL Tryz.prog 74 = none := by kernel_rfl
theorem tel74 : elemL Tryz.prog 74 = some 77 := by kernel_rfl
theorem tsz76 : sizeL Tryz.prog 76 = some 3 := by kernel_rfl
theorem tby76 : bytesL Tryz.prog 76 = some 24 := by kernel_rfl
theorem tag76 : isAggL Tryz.prog 76 = some true := by kernel_rfl
theorem tze76 : zeroL Tryz.prog 76 = some [(.lit (.int .i64 0)),(.lit (.int .i64 0)),(.lit (.int .i64 0))] := by kernel_rfl
theorem tpl76 : placesL Tryz.prog 76 = some [(0,1),(1,1),(2,1)] := by kernel_rfl
theorem tar76 : arrL Tryz.prog 76 = none := by kernel_rfl
theorem tel76 : elemL Tryz.prog 76 = none := by kernel_rfl
theorem tfi76x0 : fieldL Tryz.prog 76 0 = some (0,3) := by kernel_rfl
theorem tfi76x1 : fieldL Tryz.prog 76 1 = some (1,3) := by kernel_rfl
theorem tfi76x2 : fieldL Tryz.prog 76 2 = some (2,3) := by kernel_rfl
theorem tsz77 : sizeL Tryz.prog 77 = some 3 := by kernel_rfl
theorem tby77 : bytesL Tryz.prog 77 = some 24 := by kernel_rfl
theorem tag77 : isAggL Tryz.prog 77 = some true := by kernel_rfl
theorem tze77 : zeroL Tryz.prog 77 = some [(.lit (.int .i64 0)),(.lit (.int .i64 0)),(.lit (.int .i64 0))] := by kernel_rfl
theorem tpl77 : placesL Tryz.prog 77 = some [(0,1),(1,1),(2,1)] := by kernel_rfl
theorem tar77 : arrL Tryz.prog 77 = none := by kernel_rfl
theorem tel77 : elemL Tryz.prog 77 = none := by kernel_rfl
theorem tfi77x0 : fieldL Tryz.prog 77 0 = some (0,3) := by kernel_rfl
theorem tfi77x1 : fieldL Tryz.prog 77 1 = some (1,3) := by kernel_rfl
theorem tfi77x2 : fieldL Tryz.prog 77 2 = some (2,3) := by kernel_rfl
theorem tsz81 : sizeL Tryz.prog 81 = some 1 := by kernel_rfl
theorem tby81 : bytesL Tryz.prog 81 = some 24 := by kernel_rfl
theorem tag81 : isAggL Tryz.prog 81 = some false := by kernel_rfl
theorem tze81 : zeroL Tryz.prog 81 = some [(.lit (.slice none 0 0))] := by kernel_rfl
theorem tpl81 : placesL Tryz.prog 81 = none := by kernel_rfl
theorem tar81 : arrL Tryz.prog 81 = none := by kernel_rfl
theorem tel81 : elemL Tryz.prog 81 = some 66 := by kernel_rfl
theorem tsz82 : sizeL Tryz.prog 82 = some 1 := by kernel_rfl
theorem tby82 : bytesL Tryz.prog 82 = some 24 := by kernel_rfl
theorem tag82 : isAggL Tryz.prog 82 = some false := by kernel_rfl
theorem tze82 : zeroL Tryz.prog 82 = some [(.lit (.slice none 0 0))] := by kernel_rfl
theorem tpl82 : placesL Tryz.prog 82 = none := by kernel_rfl
theorem tar82 : arrL Tryz.prog 82 = none := by kernel_rfl
theorem tel82 : elemL Tryz.prog 82 = some 66 := by kernel_rfl
theorem tsz83 : sizeL Tryz.prog 83 = some 1 := by kernel_rfl
theorem tby83 : bytesL Tryz.prog 83 = some 24 := by kernel_rfl
theorem tag83 : isAggL Tryz.prog 83 = some true := by kernel_rfl
theorem tze83 : zeroL Tryz.prog 83 = some [(.lit (.slice none 0 0))] := by kernel_rfl
theorem tpl83 : placesL Tryz.prog 83 = some [(0,1)] := by kernel_rfl
theorem tar83 : arrL Tryz.prog 83 = none := by kernel_rfl
theorem tel83 : elemL Tryz.prog 83 = none := by kernel_rfl
theorem tfi83x0 : fieldL Tryz.prog 83 0 = some (0,82) := by kernel_rfl
theorem tsz84 : sizeL Tryz.prog 84 = some 1 := by kernel_rfl
theorem tby84 : bytesL Tryz.prog 84 = some 24 := by kernel_rfl
theorem tag84 : isAggL Tryz.prog 84 = some true := by kernel_rfl
theorem tze84 : zeroL Tryz.prog 84 = some [(.lit (.slice none 0 0))] := by kernel_rfl
theorem tpl84 : placesL Tryz.prog 84 = some [(0,1)] := by kernel_rfl
theorem tar84 : arrL Tryz.prog 84 = none := by kernel_rfl
theorem tel84 : elemL Tryz.prog 84 = none := by kernel_rfl
theorem tfi84x0 : fieldL Tryz.prog 84 0 = some (0,82) := by kernel_rfl
theorem tsz100 : sizeL Tryz.prog 100 = some 1 := by kernel_rfl
theorem tby100 : bytesL Tryz.prog 100 = some 24 := by kernel_rfl
theorem tag100 : isAggL Tryz.prog 100 = some false := by kernel_rfl
theorem tze100 : zeroL Tryz.prog 100 = some [(.lit (.slice none 0 0))] := by kernel_rfl
theorem tpl100 : placesL Tryz.prog 100 = none := by kernel_rfl
theorem tar100 : arrL Tryz.prog 100 = none := by kernel_rfl
theorem tel100 : elemL Tryz.prog 100 = some 104 := by kernel_rfl
theorem tsz103 : sizeL Tryz.prog 103 = some 2 := by kernel_rfl
theorem tby103 : bytesL Tryz.prog 103 = some 16 := by kernel_rfl
theorem tag103 : isAggL Tryz.prog 103 = some true := by kernel_rfl
theorem tze103 : zeroL Tryz.prog 103 = some [(.lit (.int .i64 0)),(.lit (.int .i64 0))] := by kernel_rfl
theorem tpl103 : placesL Tryz.prog 103 = some [(0,1),(1,1)] := by kernel_rfl
theorem tar103 : arrL Tryz.prog 103 = none := by kernel_rfl
theorem tel103 : elemL Tryz.prog 103 = none := by kernel_rfl
theorem tfi103x0 : fieldL Tryz.prog 103 0 = some (0,3) := by kernel_rfl
theorem tfi103x1 : fieldL Tryz.prog 103 1 = some (1,3) := by kernel_rfl
theorem tsz104 : sizeL Tryz.prog 104 = some 2 := by kernel_rfl
theorem tby104 : bytesL Tryz.prog 104 = some 16 := by kernel_rfl
theorem tag104 : isAggL Tryz.prog 104 = some true := by kernel_rfl
theorem tze104 : zeroL Tryz.prog 104 = some [(.lit (.int .i64 0)),(.lit (.int .i64 0))] := by kernel_rfl
theorem tpl104 : placesL Tryz.prog 104 = some [(0,1),(1,1)] := by kernel_rfl
theorem tar104 : arrL Tryz.prog 104 = none := by kernel_rfl
theorem tel104 : elemL Tryz.prog 104 = none := by kernel_rfl
theorem tfi104x0 : fieldL Tryz.prog 104 0 = some (0,3) := by kernel_rfl
theorem tfi104x1 : fieldL Tryz.prog 104 1 = some (1,3) := by kernel_rfl
theorem tsz119 : sizeL Tryz.prog 119 = some 1 := by kernel_rfl
theorem tby119 : bytesL Tryz.prog 119 = some 8 := by kernel_rfl
theorem tag119 : isAggL Tryz.prog 119 = some false := by kernel_rfl
theorem tze119 : zeroL Tryz.prog 119 = some [(.lit (.int .u64 0))] := by kernel_rfl
theorem tpl119 : placesL Tryz.prog 119 = none := by kernel_rfl
theorem tar119 : arrL Tryz.prog 119 = none := by kernel_rfl
theorem tel119 : elemL Tryz.prog 119 = none := by kernel_rfl
theorem tki119 : kindL Tryz.prog 119 = some .u64 := by kernel_rfl
theorem tsz122 : sizeL Tryz.prog 122 = some 1 := by kernel_rfl
theorem tby122 : bytesL Tryz.prog 122 = some 4 := by kernel_rfl
theorem tag122 : isAggL Tryz.prog 122 = some false := by kernel_rfl
theorem tze122 : zeroL Tryz.prog 122 = some [(.lit (.int .u32 0))] := by kernel_rfl
theorem tpl122 : placesL Tryz.prog 122 = none := by kernel_rfl
theorem tar122 : arrL Tryz.prog 122 = none := by kernel_rfl
theorem tel122 : elemL Tryz.prog 122 = none := by kernel_rfl
theorem tki122 : kindL Tryz.prog 122 = some .u32 := by kernel_rfl
theorem tsz129 : sizeL Tryz.prog 129 = some 1 := by kernel_rfl
theorem tby129 : bytesL Tryz.prog 129 = some 24 := by kernel_rfl
theorem tag129 : isAggL Tryz.prog 129 = some false := by kernel_rfl
theorem tze129 : zeroL Tryz.prog 129 = some [(.lit (.slice none 0 0))] := by kernel_rfl
theorem tpl129 : placesL Tryz.prog 129 = none := by kernel_rfl
theorem tar129 : arrL Tryz.prog 129 = none := by kernel_rfl
theorem tel129 : elemL Tryz.prog 129 = some 68 := by kernel_rfl
theorem tsz133 : sizeL Tryz.prog 133 = some 2 := by kernel_rfl
theorem tby133 : bytesL Tryz.prog 133 = some 32 := by kernel_rfl
theorem tag133 : isAggL Tryz.prog 133 = some true := by kernel_rfl
theorem tze133 : zeroL Tryz.prog 133 = some [(.lit (.slice none 0 0)),(.lit (.int .i64 0))] := by kernel_rfl
theorem tpl133 : placesL Tryz.prog 133 = some [(0,1),(1,1)] := by kernel_rfl
theorem tar133 : arrL Tryz.prog 133 = none := by kernel_rfl
theorem tel133 : elemL Tryz.prog 133 = none := by kernel_rfl
theorem tfi133x0 : fieldL Tryz.prog 133 0 = some (0,129) := by kernel_rfl
theorem tfi133x1 : fieldL Tryz.prog 133 1 = some (1,3) := by kernel_rfl
theorem tsz134 : sizeL Tryz.prog 134 = some 2 := by kernel_rfl
theorem tby134 : bytesL Tryz.prog 134 = some 32 := by kernel_rfl
theorem tag134 : isAggL Tryz.prog 134 = some true := by kernel_rfl
theorem tze134 : zeroL Tryz.prog 134 = some [(.lit (.slice none 0 0)),(.lit (.int .i64 0))] := by kernel_rfl
theorem tpl134 : placesL Tryz.prog 134 = some [(0,1),(1,1)] := by kernel_rfl
theorem tar134 : arrL Tryz.prog 134 = none := by kernel_rfl
theorem tel134 : elemL Tryz.prog 134 = none := by kernel_rfl
theorem tfi134x0 : fieldL Tryz.prog 134 0 = some (0,129) := by kernel_rfl
theorem tfi134x1 : fieldL Tryz.prog 134 1 = some (1,3) := by kernel_rfl
theorem tsz136 : sizeL Tryz.prog 136 = some 1 := by kernel_rfl
theorem tby136 : bytesL Tryz.prog 136 = some 8 := by kernel_rfl
theorem tag136 : isAggL Tryz.prog 136 = some false := by kernel_rfl
theorem tze136 : zeroL Tryz.prog 136 = some [(.lit (.int .u64 0))] := by kernel_rfl
theorem tpl136 : placesL Tryz.prog 136 = none := by kernel_rfl
theorem tar136 : arrL Tryz.prog 136 = none := by kernel_rfl
theorem tel136 : elemL Tryz.prog 136 = none := by kernel_rfl
theorem tki136 : kindL Tryz.prog 136 = some .u64 := by kernel_rfl
theorem tsz152 : sizeL Tryz.prog 152 = some 1 := by kernel_rfl
theorem tby152 : bytesL Tryz.prog 152 = some 8 := by kernel_rfl
theorem tag152 : isAggL Tryz.prog 152 = some false := by kernel_rfl
theorem tze152 : zeroL Tryz.prog 152 = some [(.lit (.int .i64 0))] := by kernel_rfl
theorem tpl152 : placesL Tryz.prog 152 = none := by kernel_rfl
theorem tar152 : arrL Tryz.prog 152 = none := by kernel_rfl
theorem tel152 : elemL Tryz.prog 152 = none := by kernel_rfl
theorem tki152 : kindL Tryz.prog 152 = some .i64 := by kernel_rfl
theorem tsz170 : sizeL Tryz.prog 170 = some 1 := by kernel_rfl
theorem tby170 : bytesL Tryz.prog 170 = some 8 := by kernel_rfl
theorem tag170 : isAggL Tryz.prog 170 = some false := by kernel_rfl
theorem tze170 : zeroL Tryz.prog 170 = some [(.lit (.int .u64 0))] := by kernel_rfl
theorem tpl170 : placesL Tryz.prog 170 = none := by kernel_rfl
theorem tar170 : arrL Tryz.prog 170 = none := by kernel_rfl
theorem tel170 : elemL Tryz.prog 170 = none := by kernel_rfl
theorem tki170 : kindL Tryz.prog 170 = some .u64 := by kernel_rfl
theorem tsz200 : sizeL Tryz.prog 200 = some 0 := by kernel_rfl
theorem tby200 : bytesL Tryz.prog 200 = some 0 := by kernel_rfl
theorem tag200 : isAggL Tryz.prog 200 = some true := by kernel_rfl
theorem tze200 : zeroL Tryz.prog 200 = some [] := by kernel_rfl
theorem tpl200 : placesL Tryz.prog 200 = none := by kernel_rfl
theorem tel200 : elemL Tryz.prog 200 = none := by kernel_rfl
theorem tar200 : arrL Tryz.prog 200 = some (0,16) := by kernel_rfl
theorem tsz201 : sizeL Tryz.prog 201 = some 0 := by kernel_rfl
theorem tby201 : bytesL Tryz.prog 201 = some 0 := by kernel_rfl
theorem tag201 : isAggL Tryz.prog 201 = some true := by kernel_rfl
theorem tze201 : zeroL Tryz.prog 201 = some [] := by kernel_rfl
theorem tpl201 : placesL Tryz.prog 201 = some [(0,0)] := by kernel_rfl
theorem tar201 : arrL Tryz.prog 201 = none := by kernel_rfl
theorem tel201 : elemL Tryz.prog 201 = none := by kernel_rfl
theorem tfi201x0 : fieldL Tryz.prog 201 0 = some (0,200) := by kernel_rfl
theorem tsz212 : sizeL Tryz.prog 212 = some 1 := by kernel_rfl
theorem tby212 : bytesL Tryz.prog 212 = some 16 := by kernel_rfl
theorem tag212 : isAggL Tryz.prog 212 = some true := by kernel_rfl
theorem tze212 : zeroL Tryz.prog 212 = some [(.lit (.string ByteArray.empty))] := by kernel_rfl
theorem tpl212 : placesL Tryz.prog 212 = some [(0,1)] := by kernel_rfl
theorem tar212 : arrL Tryz.prog 212 = none := by kernel_rfl
theorem tel212 : elemL Tryz.prog 212 = none := by kernel_rfl
theorem tfi212x0 : fieldL Tryz.prog 212 0 = some (0,9) := by kernel_rfl
def tyA :=
 (And.intro (And.intro (And.intro (And.intro (And.intro (And.intro (And.intro (And.intro tsz2 tby2) (And.intro tag2 (And.intro tze2 tpl2))) (And.intro (And.intro tar2 (And.intro tel2 tki2)) (And.intro tsz3 (And.intro tby3 tag3)))) (And.intro (And.intro (And.intro tze3 tpl3) (And.intro tar3 (And.intro tel3 tki3))) (And.intro (And.intro tsz4 (And.intro tby4 tag4)) (And.intro tze4 (And.intro tbo4 tpl4))))) (And.intro (And.intro (And.intro (And.intro tar4 tel4) (And.intro tsz5 (And.intro tby5 tag5))) (And.intro (And.intro tze5 (And.intro tpl5 tar5)) (And.intro tel5 (And.intro tki5 tsz9)))) (And.intro (And.intro (And.intro tby9 (And.intro tag9 tze9)) (And.intro tpl9 (And.intro tar9 tel9))) (And.intro (And.intro tsz12 (And.intro tby12 tag12)) (And.intro tze12 (And.intro tpl12 tar12)))))) (And.intro (And.intro (And.intro (And.intro (And.intro tel12 tki12) (And.intro tsz13 (And.intro tby13 tag13))) (And.intro (And.intro tze13 (And.intro tpl13 tar13)) (And.intro tel13 (And.intro tfi13x0 tfi13x1)))) (And.intro (And.intro (And.intro tsz21 (And.intro tby21 tag21)) (And.intro tze21 (And.intro tpl21 tar21))) (And.intro (And.intro tel21 (And.intro tki21 tsz22)) (And.intro tby22 (And.intro tag22 tze22))))) (And.intro (And.intro (And.intro (And.intro tpl22 tar22) (And.intro tel22 (And.intro tsz23 tby23))) (And.intro (And.intro tag23 (And.intro tze23 tpl23)) (And.intro tar23 (And.intro tel23 tfi23x0)))) (And.intro (And.intro (And.intro tfi23x1 (And.intro tsz24 tby24)) (And.intro tag24 (And.intro tze24 tpl24))) (And.intro (And.intro tar24 (And.intro tel24 tfi24x0)) (And.intro tfi24x1 (And.intro tsz27 tby27))))))) (And.intro (And.intro (And.intro (And.intro (And.intro (And.intro tag27 tze27) (And.intro tpl27 (And.intro tar27 tel27))) (And.intro (And.intro tsz28 (And.intro tby28 tag28)) (And.intro tze28 (And.intro tpl28 tar28)))) (And.intro (And.intro (And.intro tel28 tsz29) (And.intro tby29 (And.intro tag29 tze29))) (And.intro (And.intro tpl29 (And.intro tar29 tel29)) (And.intro tki29 (And.intro tsz43 tby43))))) (And.intro (And.intro (And.intro (And.intro tag43 tze43) (And.intro tpl43 (And.intro tel43 tar43))) (And.intro (And.intro tsz44 (And.intro tby44 tag44)) (And.intro tze44 (And.intro tpl44 tel44)))) (And.intro (And.intro (And.intro tar44 (And.intro tsz50 tby50)) (And.intro tag50 (And.intro tze50 tpl50))) (And.intro (And.intro tar50 (And.intro tel50 tsz51)) (And.intro tby51 (And.intro tag51 tze51)))))) (And.intro (And.intro (And.intro (And.intro (And.intro tpl51 tar51) (And.intro tel51 (And.intro tfi51x0 tfi51x1))) (And.intro (And.intro tfi51x2 (And.intro tsz52 tby52)) (And.intro tag52 (And.intro tze52 tpl52)))) (And.intro (And.intro (And.intro tar52 (And.intro tel52 tfi52x0)) (And.intro tfi52x1 (And.intro tfi52x2 tsz64))) (And.intro (And.intro tby64 (And.intro tag64 tze64)) (And.intro tpl64 (And.intro tar64 tel64))))) (And.intro (And.intro (And.intro (And.intro tsz65 tby65) (And.intro tag65 (And.intro tze65 tpl65))) (And.intro (And.intro tar65 (And.intro tel65 tfi65x0)) (And.intro tfi65x1 (And.intro tsz66 tby66)))) (And.intro (And.intro (And.intro tag66 (And.intro tze66 tpl66)) (And.intro tar66 (And.intro tel66 tfi66x0))) (And.intro (And.intro tfi66x1 (And.intro tsz67 tby67)) (And.intro tag67 (And.intro tze67 tpl67)))))))) (And.intro (And.intro (And.intro (And.intro (And.intro (And.intro (And.intro tar67 tel67) (And.intro tfi67x0 (And.intro tfi67x1 tsz68))) (And.intro (And.intro tby68 (And.intro tag68 tze68)) (And.intro tpl68 (And.intro tar68 tel68)))) (And.intro (And.intro (And.intro tfi68x0 tfi68x1) (And.intro tsz74 (And.intro tby74 tag74))) (And.intro (And.intro tze74 (And.intro tpl74 tar74)) (And.intro tel74 (And.intro tsz76 tby76))))) (And.intro (And.intro (And.intro (And.intro tag76 tze76) (And.intro tpl76 (And.intro tar76 tel76))) (And.intro (And.intro tfi76x0 (And.intro tfi76x1 tfi76x2)) (And.intro tsz77 (And.intro tby77 tag77)))) (And.intro (And.intro (And.intro tze77 (And.intro tpl77 tar77)) (And.intro tel77 (And.intro tfi77x0 tfi77x1))) (And.intro (And.intro tfi77x2 (And.intro tsz81 tby81)) (And.intro tag81 (And.intro tze81 tpl81)))))) (And.intro (And.intro (And.intro (And.intro (And.intro tar81 tel81) (And.intro tsz82 (And.intro tby82 tag82))) (And.intro (And.intro tze82 (And.intro tpl82 tar82)) (And.intro tel82 (And.intro tsz83 tby83)))) (And.intro (And.intro (And.intro tag83 (And.intro tze83 tpl83)) (And.intro tar83 (And.intro tel83 tfi83x0))) (And.intro (And.intro tsz84 (And.intro tby84 tag84)) (And.intro tze84 (And.intro tpl84 tar84))))) (And.intro (And.intro (And.intro (And.intro tel84 tfi84x0) (And.intro tsz100 (And.intro tby100 tag100))) (And.intro (And.intro tze100 (And.intro tpl100 tar100)) (And.intro tel100 (And.intro tsz103 tby103)))) (And.intro (And.intro (And.intro tag103 (And.intro tze103 tpl103)) (And.intro tar103 (And.intro tel103 tfi103x0))) (And.intro (And.intro tfi103x1 (And.intro tsz104 tby104)) (And.intro tag104 (And.intro tze104 tpl104))))))) (And.intro (And.intro (And.intro (And.intro (And.intro (And.intro tar104 tel104) (And.intro tfi104x0 (And.intro tfi104x1 tsz119))) (And.intro (And.intro tby119 (And.intro tag119 tze119)) (And.intro tpl119 (And.intro tar119 tel119)))) (And.intro (And.intro (And.intro tki119 (And.intro tsz122 tby122)) (And.intro tag122 (And.intro tze122 tpl122))) (And.intro (And.intro tar122 (And.intro tel122 tki122)) (And.intro tsz129 (And.intro tby129 tag129))))) (And.intro (And.intro (And.intro (And.intro tze129 tpl129) (And.intro tar129 (And.intro tel129 tsz133))) (And.intro (And.intro tby133 (And.intro tag133 tze133)) (And.intro tpl133 (And.intro tar133 tel133)))) (And.intro (And.intro (And.intro tfi133x0 (And.intro tfi133x1 tsz134)) (And.intro tby134 (And.intro tag134 tze134))) (And.intro (And.intro tpl134 (And.intro tar134 tel134)) (And.intro tfi134x0 (And.intro tfi134x1 tsz136)))))) (And.intro (And.intro (And.intro (And.intro (And.intro tby136 tag136) (And.intro tze136 (And.intro tpl136 tar136))) (And.intro (And.intro tel136 (And.intro tki136 tsz152)) (And.intro tby152 (And.intro tag152 tze152)))) (And.intro (And.intro (And.intro tpl152 (And.intro tar152 tel152)) (And.intro tki152 (And.intro tsz170 tby170))) (And.intro (And.intro tag170 (And.intro tze170 tpl170)) (And.intro tar170 (And.intro tel170 tki170))))) (And.intro (And.intro (And.intro (And.intro tsz200 tby200) (And.intro tag200 (And.intro tze200 tpl200))) (And.intro (And.intro tel200 (And.intro tar200 tsz201)) (And.intro tby201 (And.intro tag201 tze201)))) (And.intro (And.intro (And.intro tpl201 (And.intro tar201 tel201)) (And.intro tfi201x0 (And.intro tsz212 tby212))) (And.intro (And.intro tag212 (And.intro tze212 tpl212)) (And.intro tar212 (And.intro tel212 tfi212x0)))))))))
def smY := And.intro smZ tyA
end Go.Proofs.YtpkjokknpbclhaaGreat
namespace Go.Proofs.YtpkjokknpbclhaaGreat
open Go Go.Lg
instance : Laid Tryz.prog := ⟨[]⟩
theorem laid_none (St : Nat → Prop) (hp : Array Obj) : LaidOk Tryz.prog St hp := fun _ h => nomatch h
end Go.Proofs.YtpkjokknpbclhaaGreat
namespace Go.Num
def val : List Nat → Nat
 | [] => 0
 | d :: ds => d + 4294967296 * val ds
def OkD (ds : List Nat) : Prop := ∀ d ∈ ds,d < 4294967296
theorem OkD.nil : OkD [] := by simp [OkD]
theorem OkD.cons {d : Nat} {ds : List Nat} (h : d < 4294967296) (hs : OkD ds) : OkD (d :: ds) := by
 intro x hx
 rcases List.mem_cons.1 hx with rfl | hx
 ·exact h
 ·exact hs x hx
theorem OkD.head {d : Nat} {ds : List Nat} (h : OkD (d :: ds)) : d < 4294967296 := h d (by simp)
theorem OkD.tail {d : Nat} {ds : List Nat} (h : OkD (d :: ds)) : OkD ds := fun x hx => h x (by simp [hx])
theorem OkD.append {a b : List Nat} (ha : OkD a) (hb : OkD b) : OkD (a ++ b) := fun x hx => (List.mem_append.1 hx).elim (ha x) (hb x)
theorem OkD.take {a : List Nat} (ha : OkD a) (k : Nat) : OkD (a.take k) := fun x hx => ha x (List.mem_of_mem_take hx)
theorem OkD.drop {a : List Nat} (ha : OkD a) (k : Nat) : OkD (a.drop k) := fun x hx => ha x (List.mem_of_mem_drop hx)
theorem OkD.getD {a : List Nat} (ha : OkD a) (k : Nat) : a.getD k 0 < 4294967296 := by
 rw [List.getD_eq_getElem?_getD]
 cases h : a[k]? with
 | none => simp
 | some x => exact ha x (List.mem_of_getElem? h)
theorem OkD.replicate (n : Nat) : OkD (List.replicate n 0) := fun x hx => by rw [(List.mem_replicate.1 hx).2];omega
theorem val_append (a b : List Nat) : val (a ++ b) = val a + 4294967296 ^ a.length * val b := by
 induction a with
 | nil => simp [val]
 | cons d a ih =>
   simp only [List.cons_append,val,ih,List.length_cons,Nat.pow_succ,Nat.mul_add]
   rw [← Nat.mul_assoc,Nat.mul_comm (4294967296 ^ a.length) 4294967296]
   omega
theorem val_replicate (n : Nat) : val (List.replicate n 0) = 0 := by
 induction n with
 | zero => rfl
 | succ n ih => simp [List.replicate_succ,val,ih]
theorem val_snoc (a : List Nat) (d : Nat) : val (a ++ [d]) = val a + 4294967296 ^ a.length * d := by
 rw [val_append];simp [val]
theorem val_lt {a : List Nat} (h : OkD a) : val a < 4294967296 ^ a.length := by
 induction a with
 | nil => simp [val]
 | cons d a ih =>
   have h1 := ih h.tail
   have h2 := h.head
   simp only [val,List.length_cons,Nat.pow_succ]
   generalize 4294967296 ^ a.length = p at h1
   have : val a + 1 ≤ p := h1
   have := Nat.mul_le_mul_left 4294967296 this
   omega
theorem take_snoc {a : List Nat} {k : Nat} (h : k < a.length) : a.take (k + 1) = a.take k ++ [a.getD k 0] := by
 rw [List.take_succ_eq_append_getElem h]
 simp [List.getD,h]
theorem val_take_succ {a : List Nat} {k : Nat} (h : k < a.length) : val (a.take (k + 1)) = val (a.take k) + 4294967296 ^ k * a.getD k 0 := by
 rw [take_snoc h,val_snoc,List.length_take,Nat.min_eq_left (Nat.le_of_lt h)]
theorem val_split (a : List Nat) (k : Nat) (h : k ≤ a.length) : val a = val (a.take k) + 4294967296 ^ k * val (a.drop k) := by
 conv => lhs;rw [← List.take_append_drop k a]
 rw [val_append,List.length_take,Nat.min_eq_left h]
theorem drop_cons {a : List Nat} {k : Nat} (h : k < a.length) : a.drop k = a.getD k 0 :: a.drop (k + 1) := by
 rw [List.drop_eq_getElem_cons h]
 simp [List.getD,h]
def digs (n : Nat) : List Nat := if n = 0 then [] else n % 4294967296 :: digs (n / 4294967296)
termination_by n
decreasing_by omega
theorem digs_zero : digs 0 = [] := by rw [digs];simp
theorem digs_pos {n : Nat} (h : n ≠ 0) : digs n = n % 4294967296 :: digs (n / 4294967296) := by
 conv => lhs;rw [digs]
 simp [h]
theorem digs_small {n : Nat} (h0 : n ≠ 0) (h : n < 4294967296) : digs n = [n] := by
 rw [digs_pos h0,Nat.div_eq_of_lt h,digs_zero,Nat.mod_eq_of_lt h]
theorem digs_ok (n : Nat) : OkD (digs n) := by
 induction n using Nat.strongRecOn with
 | _ n ih =>
   by_cases h : n = 0
   · subst h;rw [digs_zero];exact OkD.nil
   · rw [digs_pos h]
     exact OkD.cons (Nat.mod_lt _ (by omega)) (ih _ (by omega))
theorem val_digs (n : Nat) : val (digs n) = n := by
 induction n using Nat.strongRecOn with
 | _ n ih =>
   by_cases h : n = 0
   · subst h;rw [digs_zero];rfl
   · rw [digs_pos h,val,ih _ (by omega)]
     omega
theorem digs_eq_nil {n : Nat} : digs n = [] ↔ n = 0 := by
 constructor
 ·intro h
  have := val_digs n
  rw [h] at this
  exact this.symm
 ·rintro rfl;exact digs_zero
theorem val_zero_last : ∀ {a : List Nat},val a = 0 → ∀ d ∈ a,d = 0
 | [],_,d,hd => by simp at hd
 | x :: a,h,d,hd => by
   simp only [val] at h
   rcases List.mem_cons.1 hd with rfl | hd
   · omega
   · exact val_zero_last (a := a) (by omega) d hd
theorem digs_val_last : ∀ {a : List Nat},OkD a → (∀ h : a ≠ [],a.getLast h ≠ 0) → digs (val a) = a
 | [],_,_ => digs_zero
 | d :: a,hok,hl => by
   have h2 := hok.head
   cases a with
   | nil =>
     have hd : d ≠ 0 := by simpa using hl (by simp)
     simp only [val,Nat.mul_zero,Nat.add_zero]
     exact digs_small hd h2
   | cons e a =>
     have hl' : ∀ h : (e :: a) ≠ [],(e :: a).getLast h ≠ 0 := fun h => by
       have := hl (by simp)
       rwa [List.getLast_cons h] at this
     have ih := digs_val_last hok.tail hl'
     have hpos : val (e :: a) ≠ 0 := fun hz => hl' (by simp) (val_zero_last hz _ (List.getLast_mem (by simp)))
     have hv : val (d :: e :: a) = d + 4294967296 * val (e :: a) := rfl
     rw [hv,digs_pos (by omega),show (d + 4294967296 * val (e :: a)) % 4294967296 = d by omega,show (d + 4294967296 * val (e :: a)) / 4294967296 = val (e :: a) by omega,ih]
def trimL (ds : List Nat) : List Nat := (ds.reverse.dropWhile (· == 0)).reverse
theorem trimL_snoc_zero (ds : List Nat) : trimL (ds ++ [0]) = trimL ds := by simp [trimL]
theorem trimL_snoc {ds : List Nat} {d : Nat} (h : d ≠ 0) : trimL (ds ++ [d]) = ds ++ [d] := by simp [trimL,h]
theorem trimL_take_zero {ds : List Nat} {k : Nat} (hk : k < ds.length) (h0 : ds.getD k 0 = 0) : trimL (ds.take (k + 1)) = trimL (ds.take k) := by
 rw [take_snoc hk,h0,trimL_snoc_zero]
theorem trimL_take_nz {ds : List Nat} {k : Nat} (hk : k < ds.length) (h0 : ds.getD k 0 ≠ 0) : trimL (ds.take (k + 1)) = ds.take (k + 1) := by
 rw [take_snoc hk,trimL_snoc h0]
theorem trimL_digs {ds : List Nat} (h : OkD ds) : trimL ds = digs (val ds) := by
 have key : ∀ (n : Nat) (ds : List Nat),ds.length = n → OkD ds → trimL ds = digs (val ds) := by
  intro n
  induction n with
  | zero =>
    intro ds hl _
    have : ds = [] := List.eq_nil_of_length_eq_zero hl
    subst this
    simp [trimL,val,digs_zero]
  | succ n ih =>
    intro ds hl hok
    have e : ds = ds.take n ++ [ds.getD n 0] := by rw [← take_snoc (by omega),List.take_of_length_le (by omega)]
    by_cases h0 : ds.getD n 0 = 0
    · rw [e,h0,trimL_snoc_zero,val_snoc,Nat.mul_zero,Nat.add_zero]
      exact ih _ (by rw [List.length_take];omega) (hok.take n)
    · rw [e,trimL_snoc h0,← e]
      refine (digs_val_last hok fun hne => ?_).symm
      have : ds.getLast hne = ds.getD n 0 := by
        rw [List.getLast_eq_getElem]
        simp [List.getD,hl]
      rw [this];exact h0
 exact key _ ds rfl h
theorem length_digs_le {n k : Nat} (h : n < 4294967296 ^ k) : (digs n).length ≤ k := by
 induction k generalizing n with
 | zero =>
   have : n = 0 := by simpa using h
   subst this;rw [digs_zero];simp
 | succ k ih =>
   by_cases h0 : n = 0
   · subst h0;rw [digs_zero];simp
   · rw [digs_pos h0,List.length_cons]
     have : n / 4294967296 < 4294967296 ^ k := by
       rw [Nat.pow_succ] at h
       exact Nat.div_lt_of_lt_mul (by rw [Nat.mul_comm];exact h)
     have := ih this
     omega
theorem lt_pow_digs (n : Nat) : n < 4294967296 ^ (digs n).length := by
 have := val_lt (digs_ok n)
 rwa [val_digs] at this
theorem pow_le_digs {n : Nat} (h : n ≠ 0) : 4294967296 ^ ((digs n).length - 1) ≤ n := by
 rcases Nat.lt_or_ge n (4294967296 ^ ((digs n).length - 1)) with hlt | hge
 ·have h1 := length_digs_le hlt
  have h2 : (digs n).length ≠ 0 := fun e => h (digs_eq_nil.1 (List.eq_nil_of_length_eq_zero e))
  omega
 ·exact hge
theorem lt_of_length_lt {n m : Nat} (h : (digs n).length < (digs m).length) : n < m := by
 have h0 : m ≠ 0 := fun e => by subst e;rw [digs_zero] at h;simp at h
 exact Nat.lt_of_lt_of_le (lt_pow_digs n) (Nat.le_trans (Nat.pow_le_pow_right (by omega) (by omega)) (pow_le_digs h0))
theorem length_le_of_le {n m : Nat} (h : n ≤ m) : (digs n).length ≤ (digs m).length := by
 rcases Nat.lt_or_ge (digs m).length (digs n).length with hlt | hge
 ·have := lt_of_length_lt hlt;omega
 ·exact hge
theorem length_trim_le {ds : List Nat} (h : OkD ds) : (digs (val ds)).length ≤ ds.length := length_digs_le (val_lt h)
theorem digs_last {n : Nat} (h : n ≠ 0) : (digs n).getD ((digs n).length - 1) 0 ≠ 0 := by
 intro h0
 have hlen : (digs n).length ≠ 0 := fun e => h (digs_eq_nil.1 (List.eq_nil_of_length_eq_zero e))
 have h1 := val_split (digs n) ((digs n).length - 1) (by omega)
 rw [drop_cons (by omega),h0] at h1
 have h2 : (digs n).drop ((digs n).length - 1 + 1) = [] := by simp;omega
 rw [h2,val_digs] at h1
 simp only [val,Nat.mul_zero,Nat.add_zero] at h1
 have h3 := val_lt ((digs_ok n).take ((digs n).length - 1))
 have h4 := pow_le_digs h
 rw [List.length_take,Nat.min_eq_left (by omega)] at h3
 omega
def cmpN (n m : Nat) : Int := if n < m then -1 else if n = m then 0 else 1
theorem cmp_at {a b : List Nat} {k : Nat} (ha : OkD a) (hl : a.length = b.length) (hk : k < a.length) (hd : a.drop (k + 1) = b.drop (k + 1)) (hlt : a.getD k 0 < b.getD k 0) : val a < val b := by
 have h1 := val_split a k (by omega)
 have h2 := val_split b k (by omega)
 rw [drop_cons (by omega),val] at h1
 rw [drop_cons (by omega),val,← hd] at h2
 have h3 := val_lt (ha.take k)
 rw [List.length_take,Nat.min_eq_left (by omega)] at h3
 rw [h1,h2]
 generalize 4294967296 ^ k = p at *
 generalize val (List.drop (k + 1) a) = q at *
 have h4 : p * (a.getD k 0 + 4294967296 * q) + p ≤ p * (b.getD k 0 + 4294967296 * q) := by
  have : p * (a.getD k 0 + 4294967296 * q) + p = p * (a.getD k 0 + 1 + 4294967296 * q) := by
   rw [Nat.add_right_comm,Nat.mul_add p _ 1,Nat.mul_one]
  rw [this]
  exact Nat.mul_le_mul_left _ (by omega)
 omega
theorem ext_digs : ∀ {a b : List Nat},OkD a → OkD b → a.length = b.length → val a = val b → a = b
 | [],[],_,_,_,_ => rfl
 | [],_ :: _,_,_,hl,_ => by simp at hl
 | _ :: _,[],_,_,hl,_ => by simp at hl
 | x :: a,y :: b,ha,hb,hl,hv => by
   have h1 := ha.head
   have h2 := hb.head
   simp only [val] at hv
   have : x = y := by omega
   subst this
   rw [ext_digs ha.tail hb.tail (by simpa using hl) (by omega)]
def padL : Nat → Nat → List Nat
 | 0,_ => []
 | k + 1,v => v % 4294967296 :: padL k (v / 4294967296)
theorem padL_length (k : Nat) : ∀ v,(padL k v).length = k := by
 induction k with
 | zero => intro v;rfl
 | succ k ih => intro v;simp [padL,ih]
theorem padL_ok (k : Nat) : ∀ v,OkD (padL k v) := by
 induction k with
 | zero => intro v;exact OkD.nil
 | succ k ih => intro v;exact OkD.cons (by omega) (ih _)
theorem val_padL {k : Nat} : ∀ {v : Nat},v < 4294967296 ^ k → val (padL k v) = v := by
 induction k with
 | zero => intro v h; have : v = 0 := by simpa using h
           subst this;rfl
 | succ k ih =>
   intro v h
   rw [padL,val,ih (by rw [Nat.pow_succ] at h;omega)]
   omega
theorem eq_padL {r : List Nat} {v k : Nat} (h : OkD r) (hl : r.length = k) (hv : val r = v) : r = padL k v := by
 subst hl;subst hv
 exact ext_digs h (padL_ok _ _) (padL_length _ _).symm (val_padL (val_lt h)).symm
theorem val_take_next (a : List Nat) (k : Nat) : val (a.take (k + 1)) = val (a.take k) + 4294967296 ^ k * a.getD k 0 := by
 rcases Nat.lt_or_ge k a.length with h | h
 ·exact val_take_succ h
 ·rw [List.take_of_length_le (by omega),List.take_of_length_le h]
  have : a.getD k 0 = 0 := by simp [List.getD,h]
  rw [this];omega
theorem val_set_next {r : List Nat} {k d : Nat} (h : k < r.length) : val ((r.set k d).take (k + 1)) = val (r.take k) + 4294967296 ^ k * d := by
 rw [val_take_next]
 have h1 : (r.set k d).getD k 0 = d := by simp [List.getD,h]
 rw [h1]
 simp [List.take_set_of_le]
theorem OkD.set {r : List Nat} (h : OkD r) {k d : Nat} (hd : d < 4294967296) : OkD (r.set k d) := by
 intro x hx
 rcases List.mem_or_eq_of_mem_set hx with hx | rfl
 ·exact h x hx
 ·exact hd
theorem add_next {v p c A B x y s : Nat} (h : v + p * c = A + B) (hs : s = x + y + c) : v + p * (s % 4294967296) + p * 4294967296 * (s / 4294967296) = (A + p * x) + (B + p * y) := by
 have h1 : s % 4294967296 + 4294967296 * (s / 4294967296) = x + y + c := by omega
 have h2 : p * (s % 4294967296) + p * 4294967296 * (s / 4294967296) = p * x + p * y + p * c := by
  rw [Nat.mul_assoc,← Nat.mul_add,h1,Nat.mul_add,Nat.mul_add]
 omega
theorem sub_next {v p c c' A B x y d : Nat} (h : v + B = A + p * c) (hs : d + y + c = x + 4294967296 * c') : v + p * d + (B + p * y) = (A + p * x) + p * 4294967296 * c' := by
 have h2 : p * d + p * y + p * c = p * x + p * 4294967296 * c' := by
  rw [Nat.mul_assoc,← Nat.mul_add,← Nat.mul_add,← Nat.mul_add,hs,Nat.mul_add]
 omega
theorem mul_bound {x y : Nat} (hx : x < 4294967296) (hy : y < 4294967296) : x * y ≤ 18446744065119617025 :=
 Nat.le_trans (Nat.mul_le_mul (show x ≤ 4294967295 by omega) (show y ≤ 4294967295 by omega)) (by omega)
theorem mul_next {v p c A q x y z X s : Nat} (h : v + p * q * c = A + p * x * X) (hs : s = x * y + z + c) : v + p * q * (s % 4294967296) + p * q * 4294967296 * (s / 4294967296) = (A + p * q * z) + p * x * (X + q * y) := by
 have h1 : s % 4294967296 + 4294967296 * (s / 4294967296) = x * y + z + c := by omega
 have h2 : p * q * (s % 4294967296) + p * q * 4294967296 * (s / 4294967296) = p * q * (x * y) + p * q * z + p * q * c := by
  rw [Nat.mul_assoc (p * q) 4294967296,← Nat.mul_add,h1,Nat.mul_add,Nat.mul_add]
 have h3 : p * q * (x * y) = p * x * (q * y) := by ac_rfl
 rw [Nat.mul_add (p * x)]
 omega
theorem getD_drop_eq {a b : List Nat} {k : Nat} (h : a.drop k = b.drop k) : a.getD k 0 = b.getD k 0 := by
 have h1 : (a.drop k).head? = (b.drop k).head? := by rw [h]
 rw [List.head?_drop,List.head?_drop] at h1
 rw [List.getD_eq_getElem?_getD,List.getD_eq_getElem?_getD,h1]
theorem drop_set_next {r a : List Nat} {k d : Nat} (h : r.drop k = a.drop k) : (r.set k d).drop (k + 1) = a.drop (k + 1) := by
 rw [List.drop_set_of_lt (by omega),← List.drop_drop,h,List.drop_drop]
theorem drop_set_self {q : List Nat} {k d : Nat} (h : k < q.length) : (q.set k d).drop k = d :: q.drop (k + 1) := by
 rw [drop_cons (by simpa using h)]
 have h1 : (q.set k d).getD k 0 = d := by simp [List.getD,h]
 rw [h1,List.drop_set_of_lt (by omega)]
theorem short_next {H x d : Nat} (hd : 0 < d) : (x + 4294967296 * H) / d = (H % d * 4294967296 + x) / d + 4294967296 * (H / d) ∧ (x + 4294967296 * H) % d = (H % d * 4294967296 + x) % d := by
 have h1 : x + 4294967296 * H = (H % d * 4294967296 + x) + d * (4294967296 * (H / d)) := by
  have h2 : d * (4294967296 * (H / d)) = 4294967296 * (d * (H / d)) := by ac_rfl
  have h3 := Nat.div_add_mod H d
  rw [h2]
  omega
 rw [h1]
 exact ⟨Nat.add_mul_div_left _ _ hd,Nat.add_mul_mod_self_left _ _ _⟩
theorem pow_split {s : Nat} (h : s < 32) : ∃ t,4294967296 = 2 ^ s * t ∧ 2 ^ s * 2 ≤ 4294967296 := by
 refine ⟨2 ^ (32 - s),?_,?_⟩
 ·rw [← Nat.pow_add,show s + (32 - s) = 32 by omega]
 ·rw [← Nat.pow_succ]
  exact Nat.le_trans (Nat.pow_le_pow_right (by omega) (show s + 1 ≤ 32 by omega)) (by omega)
theorem shift_bounds {x s : Nat} (hx : x < 4294967296) (hs : s < 32) : ∃ y,x * 2 ^ s % 4294967296 = 2 ^ s * y ∧ 2 ^ s * y + 2 ^ s ≤ 4294967296 ∧ x * 2 ^ s / 4294967296 < 2 ^ s ∧ x * 2 ^ s < 9223372036854775808 := by
 obtain ⟨t,ht,hle⟩ := pow_split hs
 have hp : 0 < 2 ^ s := Nat.pos_of_ne_zero (by simp)
 have h0 : x * 2 ^ s % 4294967296 = 2 ^ s * (x % t) := by
  conv => lhs;rw [ht,Nat.mul_comm x]
  exact Nat.mul_mod_mul_left _ _ _
 have ht0 : 0 < t := by
  rcases Nat.eq_zero_or_pos t with h | h
  ·subst h;simp at ht
  ·exact h
 refine ⟨x % t,h0,?_,?_,?_⟩
 ·have := Nat.mul_le_mul_left (2 ^ s) (show x % t + 1 ≤ t from Nat.mod_lt _ ht0)
  rw [← ht,Nat.mul_add,Nat.mul_one] at this
  exact this
 ·refine Nat.div_lt_of_lt_mul ?_
  exact Nat.mul_lt_mul_of_pos_right hx hp
 ·have h1 : 2 ^ s ≤ 2147483648 := by omega
  have := Nat.mul_le_mul (show x ≤ 4294967295 by omega) h1
  omega
theorem shift_next {v q ri A p x y h z : Nat} (hv : v + q * ri = A * p) (hz : z = x * p) (hy : z % 4294967296 = y) (hh : z / 4294967296 = h) : v + q * (ri + y) + q * 4294967296 * h = (A + q * x) * p := by
 have h1 : y + 4294967296 * h = x * p := by omega
 rw [Nat.add_mul,← hv,Nat.mul_assoc q x,← h1,Nat.mul_add,Nat.mul_add,Nat.mul_assoc q]
 omega
theorem val_drop_next (a : List Nat) (i : Nat) : val (a.drop i) = a.getD i 0 + 4294967296 * val (a.drop (i + 1)) := by
 rcases Nat.lt_or_ge i a.length with h | h
 ·rw [drop_cons h,val]
 ·rw [List.drop_of_length_le h,List.drop_of_length_le (by omega)]
  have : a.getD i 0 = 0 := by simp [List.getD,h]
  rw [this];rfl
theorem val_div {a : List Nat} (ha : OkD a) {i : Nat} (hi : i ≤ a.length) : val a / 4294967296 ^ i = val (a.drop i) := by
 have h1 := val_split a i hi
 have h2 := val_lt (ha.take i)
 rw [List.length_take,Nat.min_eq_left hi] at h2
 rw [h1, Nat.add_mul_div_left _ _ (by have : 0 < 4294967296 ^ i := Nat.pow_pos (by omega)
                                      exact this),Nat.div_eq_of_lt h2,Nat.zero_add]
theorem unshift_next {a : List Nat} (ha : OkD a) {i s : Nat} (hi : i < a.length) (hs : s < 32) :
  (val a / 2 ^ s) % 4294967296 ^ (i + 1) = (val a / 2 ^ s) % 4294967296 ^ i + 4294967296 ^ i * ((a.getD (i + 1) 0 * 4294967296 + a.getD i 0) / 2 ^ s % 4294967296) := by
 obtain ⟨t,ht,_⟩ := pow_split hs
 have hp : 0 < 2 ^ s := Nat.two_pow_pos s
 rw [Nat.mod_pow_succ]
 congr 2
 rw [Nat.div_div_eq_div_mul,Nat.mul_comm,← Nat.div_div_eq_div_mul,val_div ha (by omega),val_drop_next,val_drop_next]
 have h1 : a.getD i 0 + 4294967296 * (a.getD (i + 1) 0 + 4294967296 * val (a.drop (i + 1 + 1))) = (a.getD (i + 1) 0 * 4294967296 + a.getD i 0) + 2 ^ s * (4294967296 * (t * val (a.drop (i + 1 + 1)))) := by
  have : 2 ^ s * (4294967296 * (t * val (a.drop (i + 1 + 1)))) = (2 ^ s * t) * 4294967296 * val (a.drop (i + 1 + 1)) := by ac_rfl
  rw [this,← ht]
  omega
 rw [h1,Nat.add_mul_div_left _ _ hp,Nat.add_mul_mod_self_left]
end Go.Num
namespace Go.Proofs.YtpkjokknpbclhaaGreat
open Go Go.Lg Go.Num
set_option maxRecDepth 100000
attribute [local irreducible] Go.Lg.lrun Go.Lg.lwp Go.Lg.exThen Go.Lg.exBlk Go.Lg.keep Go.Lg.goodPost
theorem mix : Tryz.prog.follows .mixedOrders = true := by kernel_rfl
def u32 (n : Nat) : LV := .lit (.int .u32 (n : Int))
def u64 (n : Nat) : LV := .lit (.int .u64 (n : Int))
def i64 (n : Int) : LV := .lit (.int .i64 n)
def bl (b : Bool) : LV := .lit (.bool b)
def encI (z : Int) : LV := .agg [bl (decide (z < 0)),dg (digs z.natAbs)]
theorem trimmed_raw (ds : List Nat) (hlen : ds.length ≤ 1099511627776) : PureGood Tryz.prog 100 [dg ds] (dg (trimL ds)) := by
 refine good_of_lwp mix Tryz.func100 rfl (by decide) (nt := 21) rfl (rs := [.tmp 2]) rfl (nle rfl) ?_
 (repeat (first|apply zO (by decide +kernel)|apply zP (by decide +kernel)|(apply zS;(case h=>constructor<;>decide))|((first|apply l_go rfl|apply c_dec);(case hs=>(simp (disch := first|omega|exact kD rfl|exact kX rfl) only [smY,simprocAttr,bl,u32,u64,i64];exact rfl));first|refine c_bt ?_|refine c_bf ?_|refine zq ?_)))
 refine w_loop (α := {k : Nat // k ≤ ds.length ∧ trimL ds = trimL (ds.take k)}) (fun k => st 21 (lk [(0,.sl k.1 (dgs (ds.take k.1))),(2,nilL)]) (lkH []) 0) (fun k => k.1) ⟨ds.length,Nat.le_refl _,by simp⟩ ?_ ?_
 ·(refine Sub.plain ?_;simp only [smF,dg,renL,renLs,simprocAttr,bl,u32,u64,i64])
 ·rintro ⟨k,hk,ht⟩
  simp only [st]
  rcases k with _ | k
  ·(repeat (first|apply zO (by decide +kernel)|apply zP (by decide +kernel)|(apply zS;(case h=>constructor<;>decide))|((first|apply l_go rfl|apply c_dec);(case hs=>(simp (disch := first|omega|exact kD rfl|exact kX rfl) only [smY,simprocAttr,bl,u32,u64,i64];exact rfl));first|refine c_bt ?_|refine c_bf ?_|refine zq ?_)))
   ((first|apply g_ret|apply g_end);case hres => (simp only [smR];simp (disch := first|omega|exact kD rfl|exact kX rfl) only [smY,simprocAttr,bl,u32,u64,i64];exact rfl))
   simp (disch := first|omega|exact kD rfl|exact kX rfl) only [smY,simprocAttr,bl,u32,u64,i64]
   rw [ht]
   rfl
  ·have hg : (ds.take (k + 1)).getD k 0 = ds.getD k 0 := by simp [List.getD,List.getElem?_take]
   have hlen2 : (ds.take (k + 1)).length = k + 1 := by rw [List.length_take];omega
   by_cases h0 : ds.getD k 0 = 0
   ·have hd : (ds.take (k + 1)).getD k 0 = 0 := by rw [hg,h0]
    (repeat (first|apply zO (by decide +kernel)|apply zP (by decide +kernel)|(apply zS;(case h=>constructor<;>decide))|((first|apply l_go rfl|apply c_dec);(case hs=>(simp (disch := first|omega|exact kD rfl|exact kX rfl) only [smY,simprocAttr,bl,u32,u64,i64];exact rfl));first|refine c_bt ?_|refine c_bf ?_|refine zq ?_)))
    refine ⟨⟨k,by omega,by rw [ht,trimL_take_zero (by omega) h0]⟩,?_,Nat.lt_succ_self k⟩
    (refine Sub.plain ?_;simp only [smF,dg,renL,renLs,simprocAttr,bl,u32,u64,i64])
   ·have hd : ¬ (ds.take (k + 1)).getD k 0 = 0 := by rw [hg];exact h0
    (repeat (first|apply zO (by decide +kernel)|apply zP (by decide +kernel)|(apply zS;(case h=>constructor<;>decide))|((first|apply l_go rfl|apply c_dec);(case hs=>(simp (disch := first|omega|exact kD rfl|exact kX rfl) only [smY,simprocAttr,bl,u32,u64,i64];exact rfl));first|refine c_bt ?_|refine c_bf ?_|refine zq ?_)))
    ((first|apply g_ret|apply g_end);case hres => (simp only [smR];simp (disch := first|omega|exact kD rfl|exact kX rfl) only [smY,simprocAttr,bl,u32,u64,i64];exact rfl))
    simp (disch := first|omega|exact kD rfl|exact kX rfl) only [smY,simprocAttr,bl,u32,u64,i64]
    rw [ht,trimL_take_nz (by omega) h0]
    simp [dg,Nat.min_eq_left hk]
theorem trimmed_good {ds : List Nat} (hok : OkD ds) (hlen : ds.length ≤ 1099511627776) : PureGood Tryz.prog 100 [dg ds] (dg (digs (val ds))) := by
 rw [← trimL_digs hok];exact trimmed_raw ds hlen
theorem add32_good {x y c : Nat} (hx : x < 4294967296) (hy : y < 4294967296) (hc : c < 4294967296) :
  PureGood Tryz.prog 160 [u32 x,u32 y,u32 c] (.tup [u32 ((x + y + c) % 4294967296),u32 ((x + y + c) / 4294967296)]) := by
 unfold u32
 refine good_of_lwp mix Tryz.func160 rfl (by decide) (nt := 22) rfl (rs := [.tmp 6,.tmp 7]) rfl (nle rfl) ?_
 (repeat (first|apply zO (by decide +kernel)|apply zP (by decide +kernel)|(apply zS;(case h=>constructor<;>decide))|((first|apply l_go rfl|apply c_dec);(case hs=>(simp (disch := first|omega|exact kD rfl|exact kX rfl) only [smY,simprocAttr,bl,u32,u64,i64];exact rfl));first|refine c_bt ?_|refine c_bf ?_|refine zq ?_)))
 ((first|apply g_ret|apply g_end);case hres => (simp only [smR];simp (disch := first|omega|exact kD rfl|exact kX rfl) only [smY,simprocAttr,bl,u32,u64,i64];exact rfl))
 simp (disch := first|omega|exact kD rfl|exact kX rfl) only [smY,simprocAttr,bl,u32,u64,i64]
 simp only [Option.some.injEq,LV.tup.injEq,LV.agg.injEq,LV.sl.injEq,List.cons.injEq,LV.lit.injEq,Value.int.injEq,Value.bool.injEq,true_and,and_true,u32,u64,i64,bl,wrap_u32_mod,wrap_u64_mod]
 omega
theorem signed_good {neg : Bool} {ds : List Nat} (hok : OkD ds) (hlen : ds.length ≤ 1099511627776) :
  PureGood Tryz.prog 75 [bl neg,dg ds] (encI (if neg then -(val ds : Int) else (val ds : Int))) := by
 unfold bl
 refine good_of_lwp mix Tryz.func75 rfl (by decide) (nt := 15) rfl (rs := [.cell 4 66]) rfl (nle rfl) ?_
 (repeat (first|apply zO (by decide +kernel)|apply zP (by decide +kernel)|(apply zS;(case h=>constructor<;>decide))|((first|apply l_go rfl|apply c_dec);(case hs=>(simp (disch := first|omega|exact kD rfl|exact kX rfl) only [smY,simprocAttr,bl,u32,u64,i64];exact rfl));first|refine c_bt ?_|refine c_bf ?_|refine zq ?_)))
 refine l_call rfl (by decide) rfl (by simp (disch := first|omega|exact kD rfl|exact kX rfl) only [smY,simprocAttr,bl,u32,u64,i64];exact rfl) (trimmed_good hok hlen) ?_
 (repeat (first|apply zO (by decide +kernel)|apply zP (by decide +kernel)|(apply zS;(case h=>constructor<;>decide))|((first|apply l_go rfl|apply c_dec);(case hs=>(simp (disch := first|omega|exact kD rfl|exact kX rfl) only [smY,simprocAttr,bl,u32,u64,i64];exact rfl));first|refine c_bt ?_|refine c_bf ?_|refine zq ?_)))
 have hl2 := length_trim_le hok
 cases neg with
 | false =>
   (repeat (first|apply zO (by decide +kernel)|apply zP (by decide +kernel)|(apply zS;(case h=>constructor<;>decide))|((first|apply l_go rfl|apply c_dec);(case hs=>(simp (disch := first|omega|exact kD rfl|exact kX rfl) only [smY,simprocAttr,bl,u32,u64,i64];exact rfl));first|refine c_bt ?_|refine c_bf ?_|refine zq ?_)))
   ((first|apply g_ret|apply g_end);case hres => (simp only [smR];simp (disch := first|omega|exact kD rfl|exact kX rfl) only [smY,simprocAttr,bl,u32,u64,i64];exact rfl))
   simp (disch := first|omega|exact kD rfl|exact kX rfl) only [smY,simprocAttr,bl,u32,u64,i64]
   simp [encI,bl,dg]
 | true =>
   (repeat (first|apply zO (by decide +kernel)|apply zP (by decide +kernel)|(apply zS;(case h=>constructor<;>decide))|((first|apply l_go rfl|apply c_dec);(case hs=>(simp (disch := first|omega|exact kD rfl|exact kX rfl) only [smY,simprocAttr,bl,u32,u64,i64];exact rfl));first|refine c_bt ?_|refine c_bf ?_|refine zq ?_)))
   ((first|apply g_ret|apply g_end);case hres => (simp only [smR];simp (disch := first|omega|exact kD rfl|exact kX rfl) only [smY,simprocAttr,bl,u32,u64,i64];exact rfl))
   simp (disch := first|omega|exact kD rfl|exact kX rfl) only [smY,simprocAttr,bl,u32,u64,i64]
   have e : (0 < (digs (val ds)).length) ↔ 0 < val ds := by
     rw [List.length_pos_iff,Ne,digs_eq_nil];omega
   simp [encI,bl,dg,e]
theorem sign_good (n : Int) (h : -9223372036854775808 ≤ n ∧ n ≤ 9223372036854775807) : PureGood Tryz.prog 161 [i64 n] (i64 (if n < 0 then -1 else if n = 0 then 0 else 1)) := by
 unfold i64
 refine good_of_lwp mix Tryz.func161 rfl (by decide) (nt := 9) rfl (rs := [.tmp 2]) rfl (nle rfl) ?_
 by_cases h1 : n < 0
 ·(repeat (first|apply zO (by decide +kernel)|apply zP (by decide +kernel)|(apply zS;(case h=>constructor<;>decide))|((first|apply l_go rfl|apply c_dec);(case hs=>(simp (disch := first|omega|exact kD rfl|exact kX rfl) only [smY,simprocAttr,bl,u32,u64,i64];exact rfl));first|refine c_bt ?_|refine c_bf ?_|refine zq ?_)))
  ((first|apply g_ret|apply g_end);case hres => (simp only [smR];simp (disch := first|omega|exact kD rfl|exact kX rfl) only [smY,simprocAttr,bl,u32,u64,i64];exact rfl))
  simp (disch := first|omega|exact kD rfl|exact kX rfl) only [smY,simprocAttr,bl,u32,u64,i64]
  try simp [h1]
 ·by_cases h2 : n = 0
  ·subst h2
   (repeat (first|apply zO (by decide +kernel)|apply zP (by decide +kernel)|(apply zS;(case h=>constructor<;>decide))|((first|apply l_go rfl|apply c_dec);(case hs=>(simp (disch := first|omega|exact kD rfl|exact kX rfl) only [smY,simprocAttr,bl,u32,u64,i64];exact rfl));first|refine c_bt ?_|refine c_bf ?_|refine zq ?_)))
   ((first|apply g_ret|apply g_end);case hres => (simp only [smR];simp (disch := first|omega|exact kD rfl|exact kX rfl) only [smY,simprocAttr,bl,u32,u64,i64];exact rfl))
   simp (disch := first|omega|exact kD rfl|exact kX rfl) only [smY,simprocAttr,bl,u32,u64,i64]
   try simp
  ·(repeat (first|apply zO (by decide +kernel)|apply zP (by decide +kernel)|(apply zS;(case h=>constructor<;>decide))|((first|apply l_go rfl|apply c_dec);(case hs=>(simp (disch := first|omega|exact kD rfl|exact kX rfl) only [smY,simprocAttr,bl,u32,u64,i64];exact rfl));first|refine c_bt ?_|refine c_bf ?_|refine zq ?_)))
   ((first|apply g_ret|apply g_end);case hres => (simp only [smR];simp (disch := first|omega|exact kD rfl|exact kX rfl) only [smY,simprocAttr,bl,u32,u64,i64];exact rfl))
   simp (disch := first|omega|exact kD rfl|exact kX rfl) only [smY,simprocAttr,bl,u32,u64,i64]
   simp [h1,h2]
theorem wide_good (n : Nat) (h : n < 18446744073709551616) : PureGood Tryz.prog 76 [u64 n] (dg (digs n)) := by
 unfold u64
 refine good_of_lwp mix Tryz.func76 rfl (by decide) (nt := 18) rfl (rs := [.tmp 2]) rfl (nle rfl) ?_
 by_cases h1 : n = 0
 ·subst h1
  (repeat (first|apply zO (by decide +kernel)|apply zP (by decide +kernel)|(apply zS;(case h=>constructor<;>decide))|((first|apply l_go rfl|apply c_dec);(case hs=>(simp (disch := first|omega|exact kD rfl|exact kX rfl) only [smY,simprocAttr,bl,u32,u64,i64];exact rfl));first|refine c_bt ?_|refine c_bf ?_|refine zq ?_)))
  ((first|apply g_ret|apply g_end);case hres => (simp only [smR];simp (disch := first|omega|exact kD rfl|exact kX rfl) only [smY,simprocAttr,bl,u32,u64,i64];exact rfl))
  simp (disch := first|omega|exact kD rfl|exact kX rfl) only [smY,simprocAttr,bl,u32,u64,i64]
  rw [digs_zero];rfl
 ·by_cases h2 : n < 4294967296
  ·(repeat (first|apply zO (by decide +kernel)|apply zP (by decide +kernel)|(apply zS;(case h=>constructor<;>decide))|((first|apply l_go rfl|apply c_dec);(case hs=>(simp (disch := first|omega|exact kD rfl|exact kX rfl) only [smY,simprocAttr,bl,u32,u64,i64];exact rfl));first|refine c_bt ?_|refine c_bf ?_|refine zq ?_)))
   ((first|apply g_ret|apply g_end);case hres => (simp only [smR];simp (disch := first|omega|exact kD rfl|exact kX rfl) only [smY,simprocAttr,bl,u32,u64,i64];exact rfl))
   simp (disch := first|omega|exact kD rfl|exact kX rfl) only [smY,simprocAttr,bl,u32,u64,i64]
   rw [digs_small h1 h2];rfl
  ·(repeat (first|apply zO (by decide +kernel)|apply zP (by decide +kernel)|(apply zS;(case h=>constructor<;>decide))|((first|apply l_go rfl|apply c_dec);(case hs=>(simp (disch := first|omega|exact kD rfl|exact kX rfl) only [smY,simprocAttr,bl,u32,u64,i64];exact rfl));first|refine c_bt ?_|refine c_bf ?_|refine zq ?_)))
   ((first|apply g_ret|apply g_end);case hres => (simp only [smR];simp (disch := first|omega|exact kD rfl|exact kX rfl) only [smY,simprocAttr,bl,u32,u64,i64];exact rfl))
   simp (disch := first|omega|exact kD rfl|exact kX rfl) only [smY,simprocAttr,bl,u32,u64,i64]
   rw [digs_pos h1,digs_small (by omega) (by omega)]
   simp [dg,dgs,wrap_u32_mod]
end Go.Proofs.YtpkjokknpbclhaaGreat
namespace Go.Proofs.YtpkjokknpbclhaaGreat
open Go Go.Lg Go.Num
set_option maxRecDepth 100000
attribute [local irreducible] Go.Lg.lrun Go.Lg.lwp Go.Lg.exThen Go.Lg.exBlk Go.Lg.keep Go.Lg.goodPost
theorem word_good {ds : List Nat} (hok : OkD ds) (hl : ds.length ≤ 2) : PureGood Tryz.prog 163 [dg ds] (u64 (val ds)) := by
 unfold u64
 match ds,hl with
 | [],_ =>
   refine good_of_lwp mix Tryz.func163 rfl (by decide) (nt := 23) rfl (rs := [.tmp 2]) rfl (nle rfl) ?_
   (repeat (first|apply zO (by decide +kernel)|apply zP (by decide +kernel)|(apply zS;(case h=>constructor<;>decide))|((first|apply l_go rfl|apply c_dec);(case hs=>(simp (disch := first|omega|exact kD rfl|exact kX rfl) only [smY,simprocAttr,bl,u32,u64,i64];exact rfl));first|refine c_bt ?_|refine c_bf ?_|refine zq ?_)))
   ((first|apply g_ret|apply g_end);case hres => (simp only [smR];simp (disch := first|omega|exact kD rfl|exact kX rfl) only [smY,simprocAttr,bl,u32,u64,i64];exact rfl))
   simp (disch := first|omega|exact kD rfl|exact kX rfl) only [smY,simprocAttr,bl,u32,u64,i64]
   rfl
 | [a],_ =>
   have ha := hok.head
   refine good_of_lwp mix Tryz.func163 rfl (by decide) (nt := 23) rfl (rs := [.tmp 2]) rfl (nle rfl) ?_
   (repeat (first|apply zO (by decide +kernel)|apply zP (by decide +kernel)|(apply zS;(case h=>constructor<;>decide))|((first|apply l_go rfl|apply c_dec);(case hs=>(simp (disch := first|omega|exact kD rfl|exact kX rfl) only [smY,simprocAttr,bl,u32,u64,i64];exact rfl));first|refine c_bt ?_|refine c_bf ?_|refine zq ?_)))
   ((first|apply g_ret|apply g_end);case hres => (simp only [smR];simp (disch := first|omega|exact kD rfl|exact kX rfl) only [smY,simprocAttr,bl,u32,u64,i64];exact rfl))
   simp [pv,dgs,wrap_u64_mod,val]
 | [a,b],_ =>
   have ha := hok.head
   have hb := hok.tail.head
   refine good_of_lwp mix Tryz.func163 rfl (by decide) (nt := 23) rfl (rs := [.tmp 2]) rfl (nle rfl) ?_
   simp only [dg,dgs_cons,dgs_nil,List.length_cons,List.length_nil,Nat.reduceAdd]
   (repeat (first|apply zO (by decide +kernel)|apply zP (by decide +kernel)|(apply zS;(case h=>constructor<;>decide))|((first|apply l_go rfl|apply c_dec);(case hs=>(simp (disch := first|omega|exact kD rfl|exact kX rfl) only [smY,simprocAttr,bl,u32,u64,i64];exact rfl));first|refine c_bt ?_|refine c_bf ?_|refine zq ?_)))
   ((first|apply g_ret|apply g_end);case hres => (simp only [smR];simp (disch := first|omega|exact kD rfl|exact kX rfl) only [smY,simprocAttr,bl,u32,u64,i64];exact rfl))
   simp (disch := first|omega|exact kD rfl|exact kX rfl) only [smY,simprocAttr,bl,u32,u64,i64]
   simp [val]
   omega
theorem clone_nil (P : List LV) (hP : P = [.lit (.slice none 0 0)]) : PureGood Tryz.prog 99 P (dg []) := by
 subst hP
 refine good_of_lwp mix Tryz.func99 rfl (by decide) (nt := 8) rfl (rs := [.tmp 2]) rfl (nle rfl) ?_
 (repeat (first|apply zO (by decide +kernel)|apply zP (by decide +kernel)|(apply zS;(case h=>constructor<;>decide))|((first|apply l_go rfl|apply c_dec);(case hs=>(simp (disch := first|omega|exact kD rfl|exact kX rfl) only [smY,simprocAttr,bl,u32,u64,i64];exact rfl));first|refine c_bt ?_|refine c_bf ?_|refine zq ?_)))
 ((first|apply g_ret|apply g_end);case hres => (simp only [smR];simp (disch := first|omega|exact kD rfl|exact kX rfl) only [smY,simprocAttr,bl,u32,u64,i64];exact rfl))
 simp (disch := first|omega|exact kD rfl|exact kX rfl) only [smY,simprocAttr,bl,u32,u64,i64]
 rfl
theorem clone_empty (a : Addr) (c : Nat) : PureGood Tryz.prog 99 [.lit (.slice (some a) 0 c)] (dg []) := by
 refine good_of_lwp mix Tryz.func99 rfl (by decide) (nt := 8) rfl (rs := [.tmp 2]) rfl (nle rfl) ?_
 (repeat (first|apply zO (by decide +kernel)|apply zP (by decide +kernel)|(apply zS;(case h=>constructor<;>decide))|((first|apply l_go rfl|apply c_dec);(case hs=>(simp (disch := first|omega|exact kD rfl|exact kX rfl) only [smY,simprocAttr,bl,u32,u64,i64];exact rfl));first|refine c_bt ?_|refine c_bf ?_|refine zq ?_)))
 ((first|apply g_ret|apply g_end);case hres => (simp only [smR];simp (disch := first|omega|exact kD rfl|exact kX rfl) only [smY,simprocAttr,bl,u32,u64,i64];exact rfl))
 simp (disch := first|omega|exact kD rfl|exact kX rfl) only [smY,simprocAttr,bl,u32,u64,i64]
 rfl
theorem clone_good (ds : List Nat) (hl : ds.length ≤ 1099511627776) : PureGood Tryz.prog 99 [dg ds] (dg ds) := by
 match ds,hl with
 | [],_ => exact good_empty (clone_nil _ rfl) clone_empty
 | d :: ds,hl =>
   have h2 : (d :: ds).length = ds.length + 1 := rfl
   generalize d :: ds = es at *
   have h3 : 0 < es.length := by omega
   refine good_of_lwp mix Tryz.func99 rfl (by decide) (nt := 8) rfl (rs := [.tmp 2]) rfl (nle rfl) ?_
   (repeat (first|apply zO (by decide +kernel)|apply zP (by decide +kernel)|(apply zS;(case h=>constructor<;>decide))|((first|apply l_go rfl|apply c_dec);(case hs=>(simp (disch := first|omega|exact kD rfl|exact kX rfl) only [smY,simprocAttr,bl,u32,u64,i64];exact rfl));first|refine c_bt ?_|refine c_bf ?_|refine zq ?_)))
   ((first|apply g_ret|apply g_end);case hres => (simp only [smR];simp (disch := first|omega|exact kD rfl|exact kX rfl) only [smY,simprocAttr,bl,u32,u64,i64];exact rfl))
   simp (disch := first|omega|exact kD rfl|exact kX rfl) only [smY,simprocAttr,bl,u32,u64,i64]
   simp
theorem of_good (n : Int) (h : -9223372036854775808 ≤ n ∧ n ≤ 9223372036854775807) : PureGood Tryz.prog 47 [i64 n] (encI n) := by
 unfold i64
 refine good_of_lwp mix Tryz.func47 rfl (by decide) (nt := 14) rfl (rs := [.cell 2 66]) rfl (nle rfl) ?_
 have hl : (digs n.natAbs).length ≤ 2 := length_digs_le (k := 2) (by omega)
 by_cases h1 : n < 0
 ·have e1 : (18446744073709551616 - n % 18446744073709551616) = (n.natAbs : Int) := by omega
  have e2 : (0 - n % 18446744073709551616) % 18446744073709551616 = (n.natAbs : Int) := by omega
  (repeat (first|apply zO (by decide +kernel)|apply zP (by decide +kernel)|(apply zS;(case h=>constructor<;>decide))|((first|apply l_go rfl|apply c_dec);(case hs=>(simp (disch := first|omega|exact kD rfl|exact kX rfl) only [smY,simprocAttr,bl,u32,u64,i64];exact rfl));first|refine c_bt ?_|refine c_bf ?_|refine zq ?_)))
  simp only [wrap_u64_mod,e2]
  refine l_call rfl (by decide) rfl (by simp (disch := first|omega|exact kD rfl|exact kX rfl) only [smY,simprocAttr,bl,u32,u64,i64];exact rfl) (wide_good n.natAbs (by omega)) ?_
  simp only [↓reduceIte,List.nil_eq,reduceCtorEq]
  refine l_call rfl (by decide) rfl (by simp (disch := first|omega|exact kD rfl|exact kX rfl) only [smY,simprocAttr,bl,u32,u64,i64];exact rfl) (signed_good (neg := true) (digs_ok n.natAbs) (by omega)) ?_
  simp only [if_true]
  rw [val_digs,show -((n.natAbs : Nat) : Int) = n by omega]
  simp only [encI]
  (repeat (first|apply zO (by decide +kernel)|apply zP (by decide +kernel)|(apply zS;(case h=>constructor<;>decide))|((first|apply l_go rfl|apply c_dec);(case hs=>(simp (disch := first|omega|exact kD rfl|exact kX rfl) only [smY,simprocAttr,bl,u32,u64,i64];exact rfl));first|refine c_bt ?_|refine c_bf ?_|refine zq ?_)))
  ((first|apply g_ret|apply g_end);case hres => (simp only [smR];simp (disch := first|omega|exact kD rfl|exact kX rfl) only [smY,simprocAttr,bl,u32,u64,i64];exact rfl))
  simp (disch := first|omega|exact kD rfl|exact kX rfl) only [smY,simprocAttr,bl,u32,u64,i64]
 ·obtain ⟨k,rfl⟩ := Int.eq_ofNat_of_zero_le (by omega : 0 ≤ n)
  rw [Int.natAbs_natCast] at hl
  (repeat (first|apply zO (by decide +kernel)|apply zP (by decide +kernel)|(apply zS;(case h=>constructor<;>decide))|((first|apply l_go rfl|apply c_dec);(case hs=>(simp (disch := first|omega|exact kD rfl|exact kX rfl) only [smY,simprocAttr,bl,u32,u64,i64];exact rfl));first|refine c_bt ?_|refine c_bf ?_|refine zq ?_)))
  refine l_call rfl (by decide) rfl (by simp (disch := first|omega|exact kD rfl|exact kX rfl) only [smY,simprocAttr,bl,u32,u64,i64];exact rfl) (wide_good k (by omega)) ?_
  refine l_call rfl (by decide) rfl (by simp (disch := first|omega|exact kD rfl|exact kX rfl) only [smY,simprocAttr,bl,u32,u64,i64];exact rfl) (signed_good (neg := false) (digs_ok k) (by omega)) ?_
  simp only [if_true,Bool.false_eq_true,if_false]
  rw [val_digs]
  simp only [encI]
  (repeat (first|apply zO (by decide +kernel)|apply zP (by decide +kernel)|(apply zS;(case h=>constructor<;>decide))|((first|apply l_go rfl|apply c_dec);(case hs=>(simp (disch := first|omega|exact kD rfl|exact kX rfl) only [smY,simprocAttr,bl,u32,u64,i64];exact rfl));first|refine c_bt ?_|refine c_bf ?_|refine zq ?_)))
  ((first|apply g_ret|apply g_end);case hres => (simp only [smR];simp (disch := first|omega|exact kD rfl|exact kX rfl) only [smY,simprocAttr,bl,u32,u64,i64];exact rfl))
  simp (disch := first|omega|exact kD rfl|exact kX rfl) only [smY,simprocAttr,bl,u32,u64,i64]
theorem sub32_good {x y c : Nat} (hx : x < 4294967296) (hy : y < 4294967296) (hc : c ≤ 1) :
  PureGood Tryz.prog 162 [u32 x,u32 y,u32 c] (.tup [u32 ((x + 8589934592 - y - c) % 4294967296),u32 (if x < y + c then 1 else 0)]) := by
 unfold u32
 refine good_of_lwp mix Tryz.func162 rfl (by decide) (nt := 25) rfl (rs := [.tmp 6,.tmp 7]) rfl (nle rfl) ?_
 (repeat (first|apply zO (by decide +kernel)|apply zP (by decide +kernel)|(apply zS;(case h=>constructor<;>decide))|((first|apply l_go rfl|apply c_dec);(case hs=>(simp (disch := first|omega|exact kD rfl|exact kX rfl) only [smY,simprocAttr,bl,u32,u64,i64];exact rfl));first|refine c_bt ?_|refine c_bf ?_|refine zq ?_)))
 ((first|apply g_ret|apply g_end);case hres => (simp only [smR];simp (disch := first|omega|exact kD rfl|exact kX rfl) only [smY,simprocAttr,bl,u32,u64,i64];exact rfl))
 simp (disch := first|omega|exact kD rfl|exact kX rfl) only [smY,simprocAttr,bl,u32,u64,i64]
 simp (disch := omega) only [xorI,andI,orI,wrap_u32,IntKind.bits,Option.some.injEq,LV.tup.injEq,LV.lit.injEq,Value.int.injEq,List.cons.injEq,true_and,and_true]
 exact ⟨sub_wrap hx hy hc,borrow_bit hx hy hc (sub_wrap hx hy hc)⟩
theorem compare_good {a b : List Nat} (ha : OkD a) (hb : OkD b) (hea : a = digs (val a)) (heb : b = digs (val b)) (la : a.length ≤ 1099511627776) (lb : b.length ≤ 1099511627776) :
  PureGood Tryz.prog 156 [dg a,dg b] (i64 (cmpN (val a) (val b))) := by
 unfold i64
 refine good_of_lwp mix Tryz.func156 rfl (by decide) (nt := 42) rfl (rs := [.tmp 4]) rfl (nle rfl) ?_
 by_cases hl : a.length = b.length
 ·(repeat (first|apply zO (by decide +kernel)|apply zP (by decide +kernel)|(apply zS;(case h=>constructor<;>decide))|((first|apply l_go rfl|apply c_dec);(case hs=>(simp (disch := first|omega|exact kD rfl|exact kX rfl) only [smY,simprocAttr,bl,u32,u64,i64];exact rfl));first|refine c_bt ?_|refine c_bf ?_|refine zq ?_)))
  refine w_loop (α := {k : Nat // k ≤ a.length ∧ a.drop k = b.drop k}) (fun k => st 42 (lk [(0,.sl a.length (dgs a)),(1,.sl b.length (dgs b)),(5,.lit (.int .i64 ((k.1 : Int) - 1)))]) (lkH []) 0) (fun k => k.1) ⟨a.length,Nat.le_refl _,by simp [hl]⟩ ?_ ?_
  ·(refine Sub.plain ?_;simp only [smF,dg,renL,renLs,simprocAttr,bl,u32,u64,i64])
  ·rintro ⟨k,hk,he⟩
   simp only [st]
   rcases k with _ | k
   ·(repeat (first|apply zO (by decide +kernel)|apply zP (by decide +kernel)|(apply zS;(case h=>constructor<;>decide))|((first|apply l_go rfl|apply c_dec);(case hs=>(simp (disch := first|omega|exact kD rfl|exact kX rfl) only [smY,simprocAttr,bl,u32,u64,i64];exact rfl));first|refine c_bt ?_|refine c_bf ?_|refine zq ?_)))
    ((first|apply g_ret|apply g_end);case hres => (simp only [smR];simp (disch := first|omega|exact kD rfl|exact kX rfl) only [smY,simprocAttr,bl,u32,u64,i64];exact rfl))
    simp (disch := first|omega|exact kD rfl|exact kX rfl) only [smY,simprocAttr,bl,u32,u64,i64]
    have : a = b := by simpa using he
    rw [this]
    simp [cmpN]
   ·have hkb : k < b.length := by omega
    by_cases h1 : a.getD k 0 = b.getD k 0
    ·(repeat (first|apply zO (by decide +kernel)|apply zP (by decide +kernel)|(apply zS;(case h=>constructor<;>decide))|((first|apply l_go rfl|apply c_dec);(case hs=>(simp (disch := first|omega|exact kD rfl|exact kX rfl) only [smY,simprocAttr,bl,u32,u64,i64];exact rfl));first|refine c_bt ?_|refine c_bf ?_|refine zq ?_)))
     refine ⟨⟨k,by omega,by rw [drop_cons (by omega),drop_cons hkb,he,h1]⟩,?_,Nat.lt_succ_self k⟩
     (refine Sub.plain ?_;simp only [smF,dg,renL,renLs,simprocAttr,bl,u32,u64,i64])
     (simp only [LV.lit.injEq,Value.int.injEq,true_and,and_true,dg,LV.sl.injEq];omega)
    ·by_cases h2 : a.getD k 0 < b.getD k 0
     ·(repeat (first|apply zO (by decide +kernel)|apply zP (by decide +kernel)|(apply zS;(case h=>constructor<;>decide))|((first|apply l_go rfl|apply c_dec);(case hs=>(simp (disch := first|omega|exact kD rfl|exact kX rfl) only [smY,simprocAttr,bl,u32,u64,i64];exact rfl));first|refine c_bt ?_|refine c_bf ?_|refine zq ?_)))
      ((first|apply g_ret|apply g_end);case hres => (simp only [smR];simp (disch := first|omega|exact kD rfl|exact kX rfl) only [smY,simprocAttr,bl,u32,u64,i64];exact rfl))
      simp (disch := first|omega|exact kD rfl|exact kX rfl) only [smY,simprocAttr,bl,u32,u64,i64]
      have := cmp_at ha hl (by omega) he h2
      simp [cmpN,this]
     ·(repeat (first|apply zO (by decide +kernel)|apply zP (by decide +kernel)|(apply zS;(case h=>constructor<;>decide))|((first|apply l_go rfl|apply c_dec);(case hs=>(simp (disch := first|omega|exact kD rfl|exact kX rfl) only [smY,simprocAttr,bl,u32,u64,i64];exact rfl));first|refine c_bt ?_|refine c_bf ?_|refine zq ?_)))
      ((first|apply g_ret|apply g_end);case hres => (simp only [smR];simp (disch := first|omega|exact kD rfl|exact kX rfl) only [smY,simprocAttr,bl,u32,u64,i64];exact rfl))
      simp (disch := first|omega|exact kD rfl|exact kX rfl) only [smY,simprocAttr,bl,u32,u64,i64]
      have := cmp_at hb hl.symm hkb he.symm (by omega)
      have h3 : ¬ val a < val b := by omega
      have h4 : ¬ val a = val b := by omega
      simp [cmpN,h3,h4]
 ·have hl1 : (a.length : Int) - b.length ≠ 0 := by omega
  (repeat (first|apply zO (by decide +kernel)|apply zP (by decide +kernel)|(apply zS;(case h=>constructor<;>decide))|((first|apply l_go rfl|apply c_dec);(case hs=>(simp (disch := first|omega|exact kD rfl|exact kX rfl) only [smY,simprocAttr,bl,u32,u64,i64];exact rfl));first|refine c_bt ?_|refine c_bf ?_|refine zq ?_)))
  refine l_call rfl (by decide) rfl (by simp (disch := first|omega|exact kD rfl|exact kX rfl) only [smY,simprocAttr,bl,u32,u64,i64];exact rfl) (sign_good _ (by omega)) ?_
  simp only [i64]
  (repeat (first|apply zO (by decide +kernel)|apply zP (by decide +kernel)|(apply zS;(case h=>constructor<;>decide))|((first|apply l_go rfl|apply c_dec);(case hs=>(simp (disch := first|omega|exact kD rfl|exact kX rfl) only [smY,simprocAttr,bl,u32,u64,i64];exact rfl));first|refine c_bt ?_|refine c_bf ?_|refine zq ?_)))
  ((first|apply g_ret|apply g_end);case hres => (simp only [smR];simp (disch := first|omega|exact kD rfl|exact kX rfl) only [smY,simprocAttr,bl,u32,u64,i64];exact rfl))
  simp (disch := first|omega|exact kD rfl|exact kX rfl) only [smY,simprocAttr,bl,u32,u64,i64]
  by_cases h2 : a.length < b.length
  ·have h3 : val a < val b := lt_of_length_lt (by rw [← hea,← heb];exact h2)
   have h4 : (a.length : Int) - b.length < 0 := by omega
   simp [cmpN,h3,h4]
  ·have h3 : val b < val a := lt_of_length_lt (by rw [← hea,← heb];omega)
   have h4 : ¬ (a.length : Int) - b.length < 0 := by omega
   have h5 : ¬ val a < val b := by omega
   have h6 : ¬ val a = val b := by omega
   simp only [cmpN,if_neg h4,if_neg hl1,if_neg h5,if_neg h6]
end Go.Proofs.YtpkjokknpbclhaaGreat
namespace Go.Proofs.YtpkjokknpbclhaaGreat
open Go Go.Lg Go.Num
set_option maxRecDepth 100000
attribute [local irreducible] Go.Lg.lrun Go.Lg.lwp Go.Lg.exThen Go.Lg.exBlk Go.Lg.keep Go.Lg.goodPost
theorem less_good {a b : List Nat} (ha : OkD a) (hb : OkD b) (hl : b.length ≤ a.length) (hv : val b ≤ val a) (la : a.length ≤ 1099511627776) :
  PureGood Tryz.prog 157 [dg a,dg b] (dg (padL a.length (val a - val b))) := by
 refine good_of_lwp mix Tryz.func157 rfl (by decide) (nt := 40) rfl (rs := [.tmp 4]) rfl (nle rfl) ?_
 (repeat (first|apply zO (by decide +kernel)|apply zP (by decide +kernel)|(apply zS;(case h=>constructor<;>decide))|((first|apply l_go rfl|apply c_dec);(case hs=>(simp (disch := first|omega|exact kD rfl|exact kX rfl) only [smY,simprocAttr,bl,u32,u64,i64];exact rfl));first|refine c_bt ?_|refine c_bf ?_|refine zq ?_)))
 refine w_loop (α := {p : Nat × List Nat × Nat // p.1 ≤ a.length ∧ p.2.1.length = a.length ∧ OkD p.2.1 ∧ p.2.2 ≤ 1 ∧ val (p.2.1.take p.1) + val (b.take p.1) = val (a.take p.1) + 4294967296 ^ p.1 * p.2.2})
  (fun p => st 40 (lk [(0,dg a),(1,dg b),(5,.own 0 0 a.length 1),(6,u32 p.1.2.2),(13,dg a),(14,i64 a.length),(15,i64 p.1.1)]) (lkH [(0,⟨122,dgs p.1.2.1,false⟩)]) 1) (fun p => a.length - p.1.1) ⟨(0,List.replicate a.length 0,0),by simp,by simp,OkD.replicate _,by simp,by simp [val]⟩ ?_ ?_
 ·(refine Sub.heap1 3 ?_ (by simp only [smF,dg,renL,renLs,simprocAttr,bl,u32,u64,i64];exact rfl) ?_ ?_;all_goals (first | exact dgs_plain _ | with_reducible rfl | (simp only [smF,dg,renL,renLs,simprocAttr,bl,u32,u64,i64];done) | (simp only [smF,dg,renL,renLs,simprocAttr,bl,u32,u64,i64]) | skip))
  exact zeros_dgs _
 ·rintro ⟨⟨k,r,c⟩,hk,hr,hor,hc,he⟩
  simp only at hk hr hc he hor
  simp only [st]
  have hx := ha.getD k
  have hy := hb.getD k
  by_cases h1 : k < a.length
  ·by_cases h2 : k < b.length
   ·(repeat (first|apply zO (by decide +kernel)|apply zP (by decide +kernel)|(apply zS;(case h=>constructor<;>decide))|((first|apply l_go rfl|apply c_dec);(case hs=>(simp (disch := first|omega|exact kD rfl|exact kX rfl) only [smY,simprocAttr,bl,u32,u64,i64];exact rfl));first|refine c_bt ?_|refine c_bf ?_|refine zq ?_)))
    refine l_call rfl (by decide) rfl (by simp (disch := first|omega|exact kD rfl|exact kX rfl) only [smY,simprocAttr,bl,u32,u64,i64];exact rfl) (sub32_good hx hy hc) ?_
    simp only [u32]
    (repeat (first|apply zO (by decide +kernel)|apply zP (by decide +kernel)|(apply zS;(case h=>constructor<;>decide))|((first|apply l_go rfl|apply c_dec);(case hs=>(simp (disch := first|omega|exact kD rfl|exact kX rfl) only [smY,simprocAttr,bl,u32,u64,i64];exact rfl));first|refine c_bt ?_|refine c_bf ?_|refine zq ?_)))
    refine ⟨⟨(k + 1,r.set k ((a.getD k 0 + 8589934592 - b.getD k 0 - c) % 4294967296),if a.getD k 0 < b.getD k 0 + c then 1 else 0),by simp only;omega,by simp [hr],hor.set (by omega),by simp only;split <;> omega,?_⟩,?_,by simp only;omega⟩
    ·simp only
     rw [val_set_next (by omega),val_take_next,val_take_next,Nat.pow_succ]
     exact sub_next he (by split <;> omega)
    ·(refine Sub.heap1 0 ?_ (by simp only [smF,dg,renL,renLs,simprocAttr,bl,u32,u64,i64];exact rfl) ?_ ?_;all_goals (first | exact dgs_plain _ | with_reducible rfl | (simp only [smF,dg,renL,renLs,simprocAttr,bl,u32,u64,i64];done) | (simp only [smF,dg,renL,renLs,simprocAttr,bl,u32,u64,i64]) | skip))
   ·have hy0 : b.getD k 0 = 0 := by simp [List.getD,Nat.le_of_not_lt h2]
    (repeat (first|apply zO (by decide +kernel)|apply zP (by decide +kernel)|(apply zS;(case h=>constructor<;>decide))|((first|apply l_go rfl|apply c_dec);(case hs=>(simp (disch := first|omega|exact kD rfl|exact kX rfl) only [smY,simprocAttr,bl,u32,u64,i64];exact rfl));first|refine c_bt ?_|refine c_bf ?_|refine zq ?_)))
    refine l_call rfl (by decide) rfl (by simp (disch := first|omega|exact kD rfl|exact kX rfl) only [smY,simprocAttr,bl,u32,u64,i64];exact rfl) (sub32_good (y := 0) hx (by omega) hc) ?_
    simp only [u32]
    (repeat (first|apply zO (by decide +kernel)|apply zP (by decide +kernel)|(apply zS;(case h=>constructor<;>decide))|((first|apply l_go rfl|apply c_dec);(case hs=>(simp (disch := first|omega|exact kD rfl|exact kX rfl) only [smY,simprocAttr,bl,u32,u64,i64];exact rfl));first|refine c_bt ?_|refine c_bf ?_|refine zq ?_)))
    refine ⟨⟨(k + 1,r.set k ((a.getD k 0 + 8589934592 - 0 - c) % 4294967296),if a.getD k 0 < 0 + c then 1 else 0),by simp only;omega,by simp [hr],hor.set (by omega),by simp only;split <;> omega,?_⟩,?_,by simp only;omega⟩
    ·simp only
     rw [val_set_next (by omega),val_take_next,val_take_next,Nat.pow_succ,hy0]
     exact sub_next he (by split <;> omega)
    ·(refine Sub.heap1 0 ?_ (by simp only [smF,dg,renL,renLs,simprocAttr,bl,u32,u64,i64];exact rfl) ?_ ?_;all_goals (first | exact dgs_plain _ | with_reducible rfl | (simp only [smF,dg,renL,renLs,simprocAttr,bl,u32,u64,i64];done) | (simp only [smF,dg,renL,renLs,simprocAttr,bl,u32,u64,i64]) | skip))
     all_goals simp
  ·(repeat (first|apply zO (by decide +kernel)|apply zP (by decide +kernel)|(apply zS;(case h=>constructor<;>decide))|((first|apply l_go rfl|apply c_dec);(case hs=>(simp (disch := first|omega|exact kD rfl|exact kX rfl) only [smY,simprocAttr,bl,u32,u64,i64];exact rfl));first|refine c_bt ?_|refine c_bf ?_|refine zq ?_)))
   ((first|apply g_ret|apply g_end);case hres => (simp only [smR];simp (disch := first|omega|exact kD rfl|exact kX rfl) only [smY,simprocAttr,bl,u32,u64,i64];exact rfl))
   simp (disch := first|omega|exact kD rfl|exact kX rfl) only [smY,simprocAttr,bl,u32,u64,i64]
   have hka : k = a.length := by omega
   subst hka
   rw [List.take_of_length_le (Nat.le_of_eq hr)] at he ⊢
   rw [List.take_of_length_le hl,List.take_of_length_le (Nat.le_refl _)] at he
   have hvr := val_lt hor
   rw [hr] at hvr
   have hc0 : c = 0 := by
    rcases Nat.eq_zero_or_pos c with h | h
    ·exact h
    ·have : c = 1 := by omega
     subst this
     omega
   subst hc0
   rw [← eq_padL hor hr (show val r = val a - val b by omega)]
   simp [hr]
def plusL (a b : List Nat) : List Nat := padL (max a.length b.length + 1) (val a + val b)
theorem plus_good {a b : List Nat} (ha : OkD a) (hb : OkD b) (la : a.length ≤ 1099511627776) (lb : b.length ≤ 1099511627776) :
  PureGood Tryz.prog 155 [dg a,dg b] (dg (plusL a b)) := by
 refine good_of_lwp mix Tryz.func155 rfl (by decide) (nt := 53) rfl (rs := [.tmp 4]) rfl (nle rfl) ?_
 by_cases hab : a.length < b.length
 ·have hle := Nat.le_of_lt hab
  rw [plusL,Nat.max_eq_right hle,Nat.add_comm (val a)]
  (repeat (first|apply zO (by decide +kernel)|apply zP (by decide +kernel)|(apply zS;(case h=>constructor<;>decide))|((first|apply l_go rfl|apply c_dec);(case hs=>(simp (disch := first|omega|exact kD rfl|exact kX rfl) only [smY,simprocAttr,bl,u32,u64,i64];exact rfl));first|refine c_bt ?_|refine c_bf ?_|refine zq ?_)))
  refine w_loop (α := {p : Nat × List Nat × Nat // p.1 ≤ b.length ∧ p.2.1.length = b.length + 1 ∧ OkD p.2.1 ∧ p.2.2 ≤ 1 ∧ val (p.2.1.take p.1) + 4294967296 ^ p.1 * p.2.2 = val (b.take p.1) + val (a.take p.1)})
   (fun p => st 53 (lk [(0,dg b),(1,dg a),(5,.own 0 0 (b.length + 1) 1),(6,u32 p.1.2.2),(21,dg b),(22,i64 b.length),(23,i64 p.1.1)]) (lkH [(0,⟨122,dgs p.1.2.1,false⟩)]) 1) (fun p => b.length - p.1.1) ⟨(0,List.replicate (b.length + 1) 0,0),by simp,by simp,OkD.replicate _,by simp,by simp [val]⟩ ?_ ?_
  ·(refine Sub.heap1 13 ?_ (by simp only [smF,dg,renL,renLs,simprocAttr,bl,u32,u64,i64];exact rfl) ?_ ?_;all_goals (first | exact dgs_plain _ | with_reducible rfl | (simp only [smF,dg,renL,renLs,simprocAttr,bl,u32,u64,i64];done) | (simp only [smF,dg,renL,renLs,simprocAttr,bl,u32,u64,i64]) | skip))
   exact zeros_dgs _
  ·rintro ⟨⟨k,r,c⟩,hk,hr,hor,hc,he⟩
   simp only at hk hr hc he hor
   simp only [st]
   have hx := hb.getD k
   have hy := ha.getD k
   by_cases h1 : k < b.length
   ·by_cases h2 : k < a.length
    ·(repeat (first|apply zO (by decide +kernel)|apply zP (by decide +kernel)|(apply zS;(case h=>constructor<;>decide))|((first|apply l_go rfl|apply c_dec);(case hs=>(simp (disch := first|omega|exact kD rfl|exact kX rfl) only [smY,simprocAttr,bl,u32,u64,i64];exact rfl));first|refine c_bt ?_|refine c_bf ?_|refine zq ?_)))
     refine l_call rfl (by decide) rfl (by simp (disch := first|omega|exact kD rfl|exact kX rfl) only [smY,simprocAttr,bl,u32,u64,i64];exact rfl) (add32_good hx hy (by omega)) ?_
     simp only [u32]
     (repeat (first|apply zO (by decide +kernel)|apply zP (by decide +kernel)|(apply zS;(case h=>constructor<;>decide))|((first|apply l_go rfl|apply c_dec);(case hs=>(simp (disch := first|omega|exact kD rfl|exact kX rfl) only [smY,simprocAttr,bl,u32,u64,i64];exact rfl));first|refine c_bt ?_|refine c_bf ?_|refine zq ?_)))
     refine ⟨⟨(k + 1,r.set k ((b.getD k 0 + a.getD k 0 + c) % 4294967296),(b.getD k 0 + a.getD k 0 + c) / 4294967296),by simp only;omega,by simp [hr],hor.set (by omega),by simp only;omega,?_⟩,?_,by simp only;omega⟩
     ·simp only
      rw [val_set_next (by omega),val_take_next,val_take_next,Nat.pow_succ]
      exact add_next he rfl
     ·(refine Sub.heap1 0 ?_ (by simp only [smF,dg,renL,renLs,simprocAttr,bl,u32,u64,i64];exact rfl) ?_ ?_;all_goals (first | exact dgs_plain _ | with_reducible rfl | (simp only [smF,dg,renL,renLs,simprocAttr,bl,u32,u64,i64];done) | (simp only [smF,dg,renL,renLs,simprocAttr,bl,u32,u64,i64]) | skip))
    ·have hy0 : a.getD k 0 = 0 := by simp [List.getD,Nat.le_of_not_lt h2]
     (repeat (first|apply zO (by decide +kernel)|apply zP (by decide +kernel)|(apply zS;(case h=>constructor<;>decide))|((first|apply l_go rfl|apply c_dec);(case hs=>(simp (disch := first|omega|exact kD rfl|exact kX rfl) only [smY,simprocAttr,bl,u32,u64,i64];exact rfl));first|refine c_bt ?_|refine c_bf ?_|refine zq ?_)))
     refine l_call rfl (by decide) rfl (by simp (disch := first|omega|exact kD rfl|exact kX rfl) only [smY,simprocAttr,bl,u32,u64,i64];exact rfl) (add32_good (y := 0) hx (by omega) (by omega)) ?_
     simp only [u32]
     (repeat (first|apply zO (by decide +kernel)|apply zP (by decide +kernel)|(apply zS;(case h=>constructor<;>decide))|((first|apply l_go rfl|apply c_dec);(case hs=>(simp (disch := first|omega|exact kD rfl|exact kX rfl) only [smY,simprocAttr,bl,u32,u64,i64];exact rfl));first|refine c_bt ?_|refine c_bf ?_|refine zq ?_)))
     refine ⟨⟨(k + 1,r.set k ((b.getD k 0 + 0 + c) % 4294967296),(b.getD k 0 + 0 + c) / 4294967296),by simp only;omega,by simp [hr],hor.set (by omega),by simp only;omega,?_⟩,?_,by simp only;omega⟩
     ·simp only
      rw [val_set_next (by omega),val_take_next,val_take_next,Nat.pow_succ,hy0]
      exact add_next he rfl
     ·(refine Sub.heap1 0 ?_ (by simp only [smF,dg,renL,renLs,simprocAttr,bl,u32,u64,i64];exact rfl) ?_ ?_;all_goals (first | exact dgs_plain _ | with_reducible rfl | (simp only [smF,dg,renL,renLs,simprocAttr,bl,u32,u64,i64];done) | (simp only [smF,dg,renL,renLs,simprocAttr,bl,u32,u64,i64]) | skip))
      all_goals simp
   ·have hka : k = b.length := by omega
    subst hka
    (repeat (first|apply zO (by decide +kernel)|apply zP (by decide +kernel)|(apply zS;(case h=>constructor<;>decide))|((first|apply l_go rfl|apply c_dec);(case hs=>(simp (disch := first|omega|exact kD rfl|exact kX rfl) only [smY,simprocAttr,bl,u32,u64,i64];exact rfl));first|refine c_bt ?_|refine c_bf ?_|refine zq ?_)))
    ((first|apply g_ret|apply g_end);case hres => (simp only [smR];simp (disch := first|omega|exact kD rfl|exact kX rfl) only [smY,simprocAttr,bl,u32,u64,i64];exact rfl))
    simp (disch := first|omega|exact kD rfl|exact kX rfl) only [smY,simprocAttr,bl,u32,u64,i64]
    have h4 : val ((r.set b.length c).take (b.length + 1)) = val b + val a := by
     rw [val_set_next (by omega),he,List.take_of_length_le (Nat.le_refl _),List.take_of_length_le hle]
    rw [List.take_of_length_le (by simp [hr])] at h4
    rw [List.take_of_length_le (by simp [hr])]
    rw [eq_padL (k := b.length + 1) (hor.set (k := b.length) (d := c) (by omega)) (by simp [hr]) h4]
    simp [padL_length]
 ·have hle := Nat.le_of_not_lt hab
  rw [plusL,Nat.max_eq_left hle]
  (repeat (first|apply zO (by decide +kernel)|apply zP (by decide +kernel)|(apply zS;(case h=>constructor<;>decide))|((first|apply l_go rfl|apply c_dec);(case hs=>(simp (disch := first|omega|exact kD rfl|exact kX rfl) only [smY,simprocAttr,bl,u32,u64,i64];exact rfl));first|refine c_bt ?_|refine c_bf ?_|refine zq ?_)))
  refine w_loop (α := {p : Nat × List Nat × Nat // p.1 ≤ a.length ∧ p.2.1.length = a.length + 1 ∧ OkD p.2.1 ∧ p.2.2 ≤ 1 ∧ val (p.2.1.take p.1) + 4294967296 ^ p.1 * p.2.2 = val (a.take p.1) + val (b.take p.1)})
   (fun p => st 53 (lk [(0,dg a),(1,dg b),(5,.own 0 0 (a.length + 1) 1),(6,u32 p.1.2.2),(21,dg a),(22,i64 a.length),(23,i64 p.1.1)]) (lkH [(0,⟨122,dgs p.1.2.1,false⟩)]) 1) (fun p => a.length - p.1.1) ⟨(0,List.replicate (a.length + 1) 0,0),by simp,by simp,OkD.replicate _,by simp,by simp [val]⟩ ?_ ?_
  ·(refine Sub.heap1 9 ?_ (by simp only [smF,dg,renL,renLs,simprocAttr,bl,u32,u64,i64];exact rfl) ?_ ?_;all_goals (first | exact dgs_plain _ | with_reducible rfl | (simp only [smF,dg,renL,renLs,simprocAttr,bl,u32,u64,i64];done) | (simp only [smF,dg,renL,renLs,simprocAttr,bl,u32,u64,i64]) | skip))
   exact zeros_dgs _
  ·rintro ⟨⟨k,r,c⟩,hk,hr,hor,hc,he⟩
   simp only at hk hr hc he hor
   simp only [st]
   have hx := ha.getD k
   have hy := hb.getD k
   by_cases h1 : k < a.length
   ·by_cases h2 : k < b.length
    ·(repeat (first|apply zO (by decide +kernel)|apply zP (by decide +kernel)|(apply zS;(case h=>constructor<;>decide))|((first|apply l_go rfl|apply c_dec);(case hs=>(simp (disch := first|omega|exact kD rfl|exact kX rfl) only [smY,simprocAttr,bl,u32,u64,i64];exact rfl));first|refine c_bt ?_|refine c_bf ?_|refine zq ?_)))
     refine l_call rfl (by decide) rfl (by simp (disch := first|omega|exact kD rfl|exact kX rfl) only [smY,simprocAttr,bl,u32,u64,i64];exact rfl) (add32_good hx hy (by omega)) ?_
     simp only [u32]
     (repeat (first|apply zO (by decide +kernel)|apply zP (by decide +kernel)|(apply zS;(case h=>constructor<;>decide))|((first|apply l_go rfl|apply c_dec);(case hs=>(simp (disch := first|omega|exact kD rfl|exact kX rfl) only [smY,simprocAttr,bl,u32,u64,i64];exact rfl));first|refine c_bt ?_|refine c_bf ?_|refine zq ?_)))
     refine ⟨⟨(k + 1,r.set k ((a.getD k 0 + b.getD k 0 + c) % 4294967296),(a.getD k 0 + b.getD k 0 + c) / 4294967296),by simp only;omega,by simp [hr],hor.set (by omega),by simp only;omega,?_⟩,?_,by simp only;omega⟩
     ·simp only
      rw [val_set_next (by omega),val_take_next,val_take_next,Nat.pow_succ]
      exact add_next he rfl
     ·(refine Sub.heap1 0 ?_ (by simp only [smF,dg,renL,renLs,simprocAttr,bl,u32,u64,i64];exact rfl) ?_ ?_;all_goals (first | exact dgs_plain _ | with_reducible rfl | (simp only [smF,dg,renL,renLs,simprocAttr,bl,u32,u64,i64];done) | (simp only [smF,dg,renL,renLs,simprocAttr,bl,u32,u64,i64]) | skip))
    ·have hy0 : b.getD k 0 = 0 := by simp [List.getD,Nat.le_of_not_lt h2]
     (repeat (first|apply zO (by decide +kernel)|apply zP (by decide +kernel)|(apply zS;(case h=>constructor<;>decide))|((first|apply l_go rfl|apply c_dec);(case hs=>(simp (disch := first|omega|exact kD rfl|exact kX rfl) only [smY,simprocAttr,bl,u32,u64,i64];exact rfl));first|refine c_bt ?_|refine c_bf ?_|refine zq ?_)))
     refine l_call rfl (by decide) rfl (by simp (disch := first|omega|exact kD rfl|exact kX rfl) only [smY,simprocAttr,bl,u32,u64,i64];exact rfl) (add32_good (y := 0) hx (by omega) (by omega)) ?_
     simp only [u32]
     (repeat (first|apply zO (by decide +kernel)|apply zP (by decide +kernel)|(apply zS;(case h=>constructor<;>decide))|((first|apply l_go rfl|apply c_dec);(case hs=>(simp (disch := first|omega|exact kD rfl|exact kX rfl) only [smY,simprocAttr,bl,u32,u64,i64];exact rfl));first|refine c_bt ?_|refine c_bf ?_|refine zq ?_)))
     refine ⟨⟨(k + 1,r.set k ((a.getD k 0 + 0 + c) % 4294967296),(a.getD k 0 + 0 + c) / 4294967296),by simp only;omega,by simp [hr],hor.set (by omega),by simp only;omega,?_⟩,?_,by simp only;omega⟩
     ·simp only
      rw [val_set_next (by omega),val_take_next,val_take_next,Nat.pow_succ,hy0]
      exact add_next he rfl
     ·(refine Sub.heap1 0 ?_ (by simp only [smF,dg,renL,renLs,simprocAttr,bl,u32,u64,i64];exact rfl) ?_ ?_;all_goals (first | exact dgs_plain _ | with_reducible rfl | (simp only [smF,dg,renL,renLs,simprocAttr,bl,u32,u64,i64];done) | (simp only [smF,dg,renL,renLs,simprocAttr,bl,u32,u64,i64]) | skip))
      all_goals simp
   ·have hka : k = a.length := by omega
    subst hka
    (repeat (first|apply zO (by decide +kernel)|apply zP (by decide +kernel)|(apply zS;(case h=>constructor<;>decide))|((first|apply l_go rfl|apply c_dec);(case hs=>(simp (disch := first|omega|exact kD rfl|exact kX rfl) only [smY,simprocAttr,bl,u32,u64,i64];exact rfl));first|refine c_bt ?_|refine c_bf ?_|refine zq ?_)))
    ((first|apply g_ret|apply g_end);case hres => (simp only [smR];simp (disch := first|omega|exact kD rfl|exact kX rfl) only [smY,simprocAttr,bl,u32,u64,i64];exact rfl))
    simp (disch := first|omega|exact kD rfl|exact kX rfl) only [smY,simprocAttr,bl,u32,u64,i64]
    have h4 : val ((r.set a.length c).take (a.length + 1)) = val a + val b := by
     rw [val_set_next (by omega),he,List.take_of_length_le (Nat.le_refl _),List.take_of_length_le hle]
    rw [List.take_of_length_le (by simp [hr])] at h4
    rw [List.take_of_length_le (by simp [hr])]
    rw [eq_padL (k := a.length + 1) (hor.set (k := a.length) (d := c) (by omega)) (by simp [hr]) h4]
    simp [padL_length]
end Go.Proofs.YtpkjokknpbclhaaGreat