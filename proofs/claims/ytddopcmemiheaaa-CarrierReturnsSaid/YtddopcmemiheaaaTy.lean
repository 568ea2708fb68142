/-
Facts on the types and functions of this seat, as instances: written by a program out of the translation.
-/
import Derived.Test.YtddopcmemiheaaaRows
import Derived.Test.YtddopcmemiheaaaEng2
namespace Go.Proofs.Ytddopcmemiheaaa
open Go Go.Eng
theorem mixed : Try.prog.follows .mixedOrders = true := by kernel_rfl
abbrev und0 := Und.mk (P := Try.prog) (t := 0) Try.underlying0
attribute [instance] und0
instance siz0 : Siz Try.prog 0 1 := ⟨by kernel_rfl⟩
instance byt0 : Byt Try.prog 0 0 := ⟨by kernel_rfl⟩
abbrev und1 := Und.mk (P := Try.prog) (t := 1) Try.underlying1
attribute [instance] und1
instance siz1 : Siz Try.prog 1 1 := ⟨by kernel_rfl⟩
instance byt1 : Byt Try.prog 1 8 := ⟨by kernel_rfl⟩
instance zer1 : Zer Try.prog 1 (.nilFunc) := ⟨by kernel_rfl⟩
abbrev und2 := Und.mk (P := Try.prog) (t := 2) Try.underlying2
attribute [instance] und2
instance siz2 : Siz Try.prog 2 1 := ⟨by kernel_rfl⟩
instance byt2 : Byt Try.prog 2 8 := ⟨by kernel_rfl⟩
instance zer2 : Zer Try.prog 2 (.int .i64 0) := ⟨by kernel_rfl⟩
abbrev und3 := Und.mk (P := Try.prog) (t := 3) Try.underlying3
attribute [instance] und3
instance siz3 : Siz Try.prog 3 1 := ⟨by kernel_rfl⟩
instance byt3 : Byt Try.prog 3 8 := ⟨by kernel_rfl⟩
instance zer3 : Zer Try.prog 3 (.int .i64 0) := ⟨by kernel_rfl⟩
abbrev und4 := Und.mk (P := Try.prog) (t := 4) Try.underlying4
attribute [instance] und4
instance siz4 : Siz Try.prog 4 1 := ⟨by kernel_rfl⟩
instance byt4 : Byt Try.prog 4 1 := ⟨by kernel_rfl⟩
instance zer4 : Zer Try.prog 4 (.bool false) := ⟨by kernel_rfl⟩
abbrev und5 := Und.mk (P := Try.prog) (t := 5) Try.underlying5
attribute [instance] und5
instance siz5 : Siz Try.prog 5 1 := ⟨by kernel_rfl⟩
instance byt5 : Byt Try.prog 5 1 := ⟨by kernel_rfl⟩
instance zer5 : Zer Try.prog 5 (.int .u8 0) := ⟨by kernel_rfl⟩
abbrev und6 := Und.mk (P := Try.prog) (t := 6) Try.underlying6
attribute [instance] und6
instance siz6 : Siz Try.prog 6 1 := ⟨by kernel_rfl⟩
instance byt6 : Byt Try.prog 6 1 := ⟨by kernel_rfl⟩
instance zer6 : Zer Try.prog 6 (.int .u8 0) := ⟨by kernel_rfl⟩
abbrev und7 := Und.mk (P := Try.prog) (t := 7) Try.underlying7
attribute [instance] und7
instance siz7 : Siz Try.prog 7 4 := ⟨by kernel_rfl⟩
instance byt7 : Byt Try.prog 7 24 := ⟨by kernel_rfl⟩
instance zer7 : Zer Try.prog 7 (.agg #[.int .i64 0, .int .i64 0, .bool false, .int .u8 0]) := ⟨by kernel_rfl⟩
instance fld7x0 : Fld Try.prog 7 0 0 := ⟨_, _, 0, Try.underlying7, rfl, rfl, by kernel_rfl⟩
instance fld7x1 : Fld Try.prog 7 1 1 := ⟨_, _, 0, Try.underlying7, rfl, rfl, by kernel_rfl⟩
instance fld7x2 : Fld Try.prog 7 2 2 := ⟨_, _, 0, Try.underlying7, rfl, rfl, by kernel_rfl⟩
instance fld7x3 : Fld Try.prog 7 3 3 := ⟨_, _, 0, Try.underlying7, rfl, rfl, by kernel_rfl⟩
abbrev und8 := Und.mk (P := Try.prog) (t := 8) Try.underlying8
attribute [instance] und8
instance siz8 : Siz Try.prog 8 4 := ⟨by kernel_rfl⟩
instance byt8 : Byt Try.prog 8 24 := ⟨by kernel_rfl⟩
instance zer8 : Zer Try.prog 8 (.agg #[.int .i64 0, .int .i64 0, .bool false, .int .u8 0]) := ⟨by kernel_rfl⟩
instance fld8x0 : Fld Try.prog 8 0 0 := ⟨_, _, 0, Try.underlying8, rfl, rfl, by kernel_rfl⟩
instance fld8x1 : Fld Try.prog 8 1 1 := ⟨_, _, 0, Try.underlying8, rfl, rfl, by kernel_rfl⟩
instance fld8x2 : Fld Try.prog 8 2 2 := ⟨_, _, 0, Try.underlying8, rfl, rfl, by kernel_rfl⟩
instance fld8x3 : Fld Try.prog 8 3 3 := ⟨_, _, 0, Try.underlying8, rfl, rfl, by kernel_rfl⟩
abbrev und9 := Und.mk (P := Try.prog) (t := 9) Try.underlying9
attribute [instance] und9
instance siz9 : Siz Try.prog 9 1 := ⟨by kernel_rfl⟩
instance byt9 : Byt Try.prog 9 16 := ⟨by kernel_rfl⟩
instance zer9 : Zer Try.prog 9 (.string ByteArray.empty) := ⟨by kernel_rfl⟩
abbrev und10 := Und.mk (P := Try.prog) (t := 10) Try.underlying10
attribute [instance] und10
instance siz10 : Siz Try.prog 10 1 := ⟨by kernel_rfl⟩
instance byt10 : Byt Try.prog 10 16 := ⟨by kernel_rfl⟩
instance zer10 : Zer Try.prog 10 (.string ByteArray.empty) := ⟨by kernel_rfl⟩
abbrev und11 := Und.mk (P := Try.prog) (t := 11) Try.underlying11
attribute [instance] und11
instance siz11 : Siz Try.prog 11 1 := ⟨by kernel_rfl⟩
instance byt11 : Byt Try.prog 11 16 := ⟨by kernel_rfl⟩
instance zer11 : Zer Try.prog 11 (.string ByteArray.empty) := ⟨by kernel_rfl⟩
abbrev und12 := Und.mk (P := Try.prog) (t := 12) Try.underlying12
attribute [instance] und12
instance siz12 : Siz Try.prog 12 1 := ⟨by kernel_rfl⟩
instance byt12 : Byt Try.prog 12 8 := ⟨by kernel_rfl⟩
instance zer12 : Zer Try.prog 12 (.int .u64 0) := ⟨by kernel_rfl⟩
abbrev und13 := Und.mk (P := Try.prog) (t := 13) Try.underlying13
attribute [instance] und13
instance siz13 : Siz Try.prog 13 2 := ⟨by kernel_rfl⟩
instance byt13 : Byt Try.prog 13 24 := ⟨by kernel_rfl⟩
instance zer13 : Zer Try.prog 13 (.agg #[.string ByteArray.empty, .int .u64 0]) := ⟨by kernel_rfl⟩
instance fld13x0 : Fld Try.prog 13 0 0 := ⟨_, _, 0, Try.underlying13, rfl, rfl, by kernel_rfl⟩
instance fld13x1 : Fld Try.prog 13 1 1 := ⟨_, _, 0, Try.underlying13, rfl, rfl, by kernel_rfl⟩
abbrev und14 := Und.mk (P := Try.prog) (t := 14) Try.underlying14
attribute [instance] und14
instance siz14 : Siz Try.prog 14 2 := ⟨by kernel_rfl⟩
instance byt14 : Byt Try.prog 14 24 := ⟨by kernel_rfl⟩
instance zer14 : Zer Try.prog 14 (.agg #[.string ByteArray.empty, .int .u64 0]) := ⟨by kernel_rfl⟩
instance fld14x0 : Fld Try.prog 14 0 0 := ⟨_, _, 0, Try.underlying14, rfl, rfl, by kernel_rfl⟩
instance fld14x1 : Fld Try.prog 14 1 1 := ⟨_, _, 0, Try.underlying14, rfl, rfl, by kernel_rfl⟩
abbrev und15 := Und.mk (P := Try.prog) (t := 15) Try.underlying15
attribute [instance] und15
instance siz15 : Siz Try.prog 15 1 := ⟨by kernel_rfl⟩
instance byt15 : Byt Try.prog 15 8 := ⟨by kernel_rfl⟩
instance zer15 : Zer Try.prog 15 (.pointer none) := ⟨by kernel_rfl⟩
abbrev und16 := Und.mk (P := Try.prog) (t := 16) Try.underlying16
attribute [instance] und16
instance siz16 : Siz Try.prog 16 1 := ⟨by kernel_rfl⟩
instance byt16 : Byt Try.prog 16 8 := ⟨by kernel_rfl⟩
instance zer16 : Zer Try.prog 16 (.pointer none) := ⟨by kernel_rfl⟩
abbrev und17 := Und.mk (P := Try.prog) (t := 17) Try.underlying17
attribute [instance] und17
instance siz17 : Siz Try.prog 17 1 := ⟨by kernel_rfl⟩
instance byt17 : Byt Try.prog 17 8 := ⟨by kernel_rfl⟩
instance zer17 : Zer Try.prog 17 (.pointer none) := ⟨by kernel_rfl⟩
abbrev und18 := Und.mk (P := Try.prog) (t := 18) Try.underlying18
attribute [instance] und18
instance siz18 : Siz Try.prog 18 1 := ⟨by kernel_rfl⟩
instance byt18 : Byt Try.prog 18 8 := ⟨by kernel_rfl⟩
instance zer18 : Zer Try.prog 18 (.agg #[.pointer none]) := ⟨by kernel_rfl⟩
instance fld18x0 : Fld Try.prog 18 0 0 := ⟨_, _, 0, Try.underlying18, rfl, rfl, by kernel_rfl⟩
abbrev und19 := Und.mk (P := Try.prog) (t := 19) Try.underlying19
attribute [instance] und19
instance siz19 : Siz Try.prog 19 1 := ⟨by kernel_rfl⟩
instance byt19 : Byt Try.prog 19 8 := ⟨by kernel_rfl⟩
instance zer19 : Zer Try.prog 19 (.agg #[.pointer none]) := ⟨by kernel_rfl⟩
instance fld19x0 : Fld Try.prog 19 0 0 := ⟨_, _, 0, Try.underlying19, rfl, rfl, by kernel_rfl⟩
abbrev und20 := Und.mk (P := Try.prog) (t := 20) Try.underlying20
attribute [instance] und20
instance siz20 : Siz Try.prog 20 1 := ⟨by kernel_rfl⟩
instance byt20 : Byt Try.prog 20 16 := ⟨by kernel_rfl⟩
instance zer20 : Zer Try.prog 20 (.nilIface) := ⟨by kernel_rfl⟩
abbrev und21 := Und.mk (P := Try.prog) (t := 21) Try.underlying21
attribute [instance] und21
instance siz21 : Siz Try.prog 21 1 := ⟨by kernel_rfl⟩
instance byt21 : Byt Try.prog 21 4 := ⟨by kernel_rfl⟩
instance zer21 : Zer Try.prog 21 (.int .i32 0) := ⟨by kernel_rfl⟩
abbrev und22 := Und.mk (P := Try.prog) (t := 22) Try.underlying22
attribute [instance] und22
instance siz22 : Siz Try.prog 22 1 := ⟨by kernel_rfl⟩
instance byt22 : Byt Try.prog 22 24 := ⟨by kernel_rfl⟩
instance zer22 : Zer Try.prog 22 (.slice none 0 0) := ⟨by kernel_rfl⟩
abbrev und23 := Und.mk (P := Try.prog) (t := 23) Try.underlying23
attribute [instance] und23
instance siz23 : Siz Try.prog 23 1 := ⟨by kernel_rfl⟩
instance byt23 : Byt Try.prog 23 24 := ⟨by kernel_rfl⟩
instance zer23 : Zer Try.prog 23 (.slice none 0 0) := ⟨by kernel_rfl⟩
abbrev und24 := Und.mk (P := Try.prog) (t := 24) Try.underlying24
attribute [instance] und24
instance siz24 : Siz Try.prog 24 1 := ⟨by kernel_rfl⟩
instance byt24 : Byt Try.prog 24 24 := ⟨by kernel_rfl⟩
instance zer24 : Zer Try.prog 24 (.slice none 0 0) := ⟨by kernel_rfl⟩
abbrev und25 := Und.mk (P := Try.prog) (t := 25) Try.underlying25
attribute [instance] und25
instance siz25 : Siz Try.prog 25 3 := ⟨by kernel_rfl⟩
instance byt25 : Byt Try.prog 25 56 := ⟨by kernel_rfl⟩
instance zer25 : Zer Try.prog 25 (.agg #[.slice none 0 0, .slice none 0 0, .int .i64 0]) := ⟨by kernel_rfl⟩
instance fld25x0 : Fld Try.prog 25 0 0 := ⟨_, _, 0, Try.underlying25, rfl, rfl, by kernel_rfl⟩
instance fld25x1 : Fld Try.prog 25 1 1 := ⟨_, _, 0, Try.underlying25, rfl, rfl, by kernel_rfl⟩
instance fld25x2 : Fld Try.prog 25 2 2 := ⟨_, _, 0, Try.underlying25, rfl, rfl, by kernel_rfl⟩
abbrev und26 := Und.mk (P := Try.prog) (t := 26) Try.underlying26
attribute [instance] und26
instance siz26 : Siz Try.prog 26 3 := ⟨by kernel_rfl⟩
instance byt26 : Byt Try.prog 26 56 := ⟨by kernel_rfl⟩
instance zer26 : Zer Try.prog 26 (.agg #[.slice none 0 0, .slice none 0 0, .int .i64 0]) := ⟨by kernel_rfl⟩
instance fld26x0 : Fld Try.prog 26 0 0 := ⟨_, _, 0, Try.underlying26, rfl, rfl, by kernel_rfl⟩
instance fld26x1 : Fld Try.prog 26 1 1 := ⟨_, _, 0, Try.underlying26, rfl, rfl, by kernel_rfl⟩
instance fld26x2 : Fld Try.prog 26 2 2 := ⟨_, _, 0, Try.underlying26, rfl, rfl, by kernel_rfl⟩
abbrev und27 := Und.mk (P := Try.prog) (t := 27) Try.underlying27
attribute [instance] und27
instance siz27 : Siz Try.prog 27 1 := ⟨by kernel_rfl⟩
instance byt27 : Byt Try.prog 27 0 := ⟨by kernel_rfl⟩
abbrev und28 := Und.mk (P := Try.prog) (t := 28) Try.underlying28
attribute [instance] und28
instance siz28 : Siz Try.prog 28 1 := ⟨by kernel_rfl⟩
instance byt28 : Byt Try.prog 28 8 := ⟨by kernel_rfl⟩
instance zer28 : Zer Try.prog 28 (.nilFunc) := ⟨by kernel_rfl⟩
abbrev und29 := Und.mk (P := Try.prog) (t := 29) Try.underlying29
attribute [instance] und29
instance siz29 : Siz Try.prog 29 1 := ⟨by kernel_rfl⟩
instance byt29 : Byt Try.prog 29 8 := ⟨by kernel_rfl⟩
instance zer29 : Zer Try.prog 29 (.int .i64 0) := ⟨by kernel_rfl⟩
abbrev und30 := Und.mk (P := Try.prog) (t := 30) Try.underlying30
attribute [instance] und30
instance siz30 : Siz Try.prog 30 1 := ⟨by kernel_rfl⟩
instance byt30 : Byt Try.prog 30 8 := ⟨by kernel_rfl⟩
instance zer30 : Zer Try.prog 30 (.nilFunc) := ⟨by kernel_rfl⟩
abbrev und31 := Und.mk (P := Try.prog) (t := 31) Try.underlying31
attribute [instance] und31
instance siz31 : Siz Try.prog 31 1 := ⟨by kernel_rfl⟩
instance byt31 : Byt Try.prog 31 8 := ⟨by kernel_rfl⟩
instance zer31 : Zer Try.prog 31 (.nilFunc) := ⟨by kernel_rfl⟩
abbrev und32 := Und.mk (P := Try.prog) (t := 32) Try.underlying32
attribute [instance] und32
instance siz32 : Siz Try.prog 32 1 := ⟨by kernel_rfl⟩
instance byt32 : Byt Try.prog 32 8 := ⟨by kernel_rfl⟩
instance zer32 : Zer Try.prog 32 (.nilFunc) := ⟨by kernel_rfl⟩
abbrev und33 := Und.mk (P := Try.prog) (t := 33) Try.underlying33
attribute [instance] und33
instance siz33 : Siz Try.prog 33 1 := ⟨by kernel_rfl⟩
instance byt33 : Byt Try.prog 33 24 := ⟨by kernel_rfl⟩
instance zer33 : Zer Try.prog 33 (.slice none 0 0) := ⟨by kernel_rfl⟩
abbrev und34 := Und.mk (P := Try.prog) (t := 34) Try.underlying34
attribute [instance] und34
instance siz34 : Siz Try.prog 34 1 := ⟨by kernel_rfl⟩
instance byt34 : Byt Try.prog 34 24 := ⟨by kernel_rfl⟩
instance zer34 : Zer Try.prog 34 (.slice none 0 0) := ⟨by kernel_rfl⟩
abbrev und35 := Und.mk (P := Try.prog) (t := 35) Try.underlying35
attribute [instance] und35
instance siz35 : Siz Try.prog 35 1 := ⟨by kernel_rfl⟩
instance byt35 : Byt Try.prog 35 0 := ⟨by kernel_rfl⟩
abbrev und36 := Und.mk (P := Try.prog) (t := 36) Try.underlying36
attribute [instance] und36
instance siz36 : Siz Try.prog 36 1 := ⟨by kernel_rfl⟩
instance byt36 : Byt Try.prog 36 8 := ⟨by kernel_rfl⟩
instance zer36 : Zer Try.prog 36 (.nilFunc) := ⟨by kernel_rfl⟩
abbrev und37 := Und.mk (P := Try.prog) (t := 37) Try.underlying37
attribute [instance] und37
instance siz37 : Siz Try.prog 37 1 := ⟨by kernel_rfl⟩
instance byt37 : Byt Try.prog 37 8 := ⟨by kernel_rfl⟩
instance zer37 : Zer Try.prog 37 (.nilFunc) := ⟨by kernel_rfl⟩
abbrev und38 := Und.mk (P := Try.prog) (t := 38) Try.underlying38
attribute [instance] und38
instance siz38 : Siz Try.prog 38 1 := ⟨by kernel_rfl⟩
instance byt38 : Byt Try.prog 38 8 := ⟨by kernel_rfl⟩
instance zer38 : Zer Try.prog 38 (.nilFunc) := ⟨by kernel_rfl⟩
abbrev und39 := Und.mk (P := Try.prog) (t := 39) Try.underlying39
attribute [instance] und39
instance siz39 : Siz Try.prog 39 1 := ⟨by kernel_rfl⟩
instance byt39 : Byt Try.prog 39 8 := ⟨by kernel_rfl⟩
instance zer39 : Zer Try.prog 39 (.nilFunc) := ⟨by kernel_rfl⟩
abbrev und40 := Und.mk (P := Try.prog) (t := 40) Try.underlying40
attribute [instance] und40
instance siz40 : Siz Try.prog 40 1 := ⟨by kernel_rfl⟩
instance byt40 : Byt Try.prog 40 8 := ⟨by kernel_rfl⟩
instance zer40 : Zer Try.prog 40 (.nilFunc) := ⟨by kernel_rfl⟩
abbrev und41 := Und.mk (P := Try.prog) (t := 41) Try.underlying41
attribute [instance] und41
instance siz41 : Siz Try.prog 41 4 := ⟨by kernel_rfl⟩
instance byt41 : Byt Try.prog 41 32 := ⟨by kernel_rfl⟩
instance zer41 : Zer Try.prog 41 (.agg #[.int .i64 0, .int .i64 0, .int .i64 0, .int .i64 0]) := ⟨by kernel_rfl⟩
instance fld41x0 : Fld Try.prog 41 0 0 := ⟨_, _, 0, Try.underlying41, rfl, rfl, by kernel_rfl⟩
instance fld41x1 : Fld Try.prog 41 1 1 := ⟨_, _, 0, Try.underlying41, rfl, rfl, by kernel_rfl⟩
instance fld41x2 : Fld Try.prog 41 2 2 := ⟨_, _, 0, Try.underlying41, rfl, rfl, by kernel_rfl⟩
instance fld41x3 : Fld Try.prog 41 3 3 := ⟨_, _, 0, Try.underlying41, rfl, rfl, by kernel_rfl⟩
abbrev und42 := Und.mk (P := Try.prog) (t := 42) Try.underlying42
attribute [instance] und42
instance siz42 : Siz Try.prog 42 4 := ⟨by kernel_rfl⟩
instance byt42 : Byt Try.prog 42 32 := ⟨by kernel_rfl⟩
instance zer42 : Zer Try.prog 42 (.agg #[.int .i64 0, .int .i64 0, .int .i64 0, .int .i64 0]) := ⟨by kernel_rfl⟩
instance fld42x0 : Fld Try.prog 42 0 0 := ⟨_, _, 0, Try.underlying42, rfl, rfl, by kernel_rfl⟩
instance fld42x1 : Fld Try.prog 42 1 1 := ⟨_, _, 0, Try.underlying42, rfl, rfl, by kernel_rfl⟩
instance fld42x2 : Fld Try.prog 42 2 2 := ⟨_, _, 0, Try.underlying42, rfl, rfl, by kernel_rfl⟩
instance fld42x3 : Fld Try.prog 42 3 3 := ⟨_, _, 0, Try.underlying42, rfl, rfl, by kernel_rfl⟩
abbrev und43 := Und.mk (P := Try.prog) (t := 43) Try.underlying43
attribute [instance] und43
instance siz43 : Siz Try.prog 43 1 := ⟨by kernel_rfl⟩
instance byt43 : Byt Try.prog 43 8 := ⟨by kernel_rfl⟩
instance zer43 : Zer Try.prog 43 (.nilFunc) := ⟨by kernel_rfl⟩
abbrev und44 := Und.mk (P := Try.prog) (t := 44) Try.underlying44
attribute [instance] und44
instance siz44 : Siz Try.prog 44 1 := ⟨by kernel_rfl⟩
instance byt44 : Byt Try.prog 44 0 := ⟨by kernel_rfl⟩
abbrev und45 := Und.mk (P := Try.prog) (t := 45) Try.underlying45
attribute [instance] und45
instance siz45 : Siz Try.prog 45 1 := ⟨by kernel_rfl⟩
instance byt45 : Byt Try.prog 45 8 := ⟨by kernel_rfl⟩
instance zer45 : Zer Try.prog 45 (.nilFunc) := ⟨by kernel_rfl⟩
abbrev und46 := Und.mk (P := Try.prog) (t := 46) Try.underlying46
attribute [instance] und46
instance siz46 : Siz Try.prog 46 1 := ⟨by kernel_rfl⟩
instance byt46 : Byt Try.prog 46 8 := ⟨by kernel_rfl⟩
instance zer46 : Zer Try.prog 46 (.nilFunc) := ⟨by kernel_rfl⟩
abbrev und47 := Und.mk (P := Try.prog) (t := 47) Try.underlying47
attribute [instance] und47
instance siz47 : Siz Try.prog 47 3 := ⟨by kernel_rfl⟩
instance byt47 : Byt Try.prog 47 24 := ⟨by kernel_rfl⟩
instance zer47 : Zer Try.prog 47 (.agg #[.int .i64 0, .int .i64 0, .int .i64 0]) := ⟨by kernel_rfl⟩
instance fld47x0 : Fld Try.prog 47 0 0 := ⟨_, _, 0, Try.underlying47, rfl, rfl, by kernel_rfl⟩
instance fld47x1 : Fld Try.prog 47 1 1 := ⟨_, _, 0, Try.underlying47, rfl, rfl, by kernel_rfl⟩
instance fld47x2 : Fld Try.prog 47 2 2 := ⟨_, _, 0, Try.underlying47, rfl, rfl, by kernel_rfl⟩
abbrev und48 := Und.mk (P := Try.prog) (t := 48) Try.underlying48
attribute [instance] und48
instance siz48 : Siz Try.prog 48 3 := ⟨by kernel_rfl⟩
instance byt48 : Byt Try.prog 48 24 := ⟨by kernel_rfl⟩
instance zer48 : Zer Try.prog 48 (.agg #[.int .i64 0, .int .i64 0, .int .i64 0]) := ⟨by kernel_rfl⟩
instance fld48x0 : Fld Try.prog 48 0 0 := ⟨_, _, 0, Try.underlying48, rfl, rfl, by kernel_rfl⟩
instance fld48x1 : Fld Try.prog 48 1 1 := ⟨_, _, 0, Try.underlying48, rfl, rfl, by kernel_rfl⟩
instance fld48x2 : Fld Try.prog 48 2 2 := ⟨_, _, 0, Try.underlying48, rfl, rfl, by kernel_rfl⟩
abbrev und49 := Und.mk (P := Try.prog) (t := 49) Try.underlying49
attribute [instance] und49
instance siz49 : Siz Try.prog 49 4 := ⟨by kernel_rfl⟩
instance byt49 : Byt Try.prog 49 32 := ⟨by kernel_rfl⟩
instance zer49 : Zer Try.prog 49 (.agg #[.int .i64 0, .int .i64 0, .int .i64 0, .int .i64 0]) := ⟨by kernel_rfl⟩
instance fld49x0 : Fld Try.prog 49 0 0 := ⟨_, _, 0, Try.underlying49, rfl, rfl, by kernel_rfl⟩
instance fld49x1 : Fld Try.prog 49 1 1 := ⟨_, _, 0, Try.underlying49, rfl, rfl, by kernel_rfl⟩
instance fld49x2 : Fld Try.prog 49 2 2 := ⟨_, _, 0, Try.underlying49, rfl, rfl, by kernel_rfl⟩
instance fld49x3 : Fld Try.prog 49 3 3 := ⟨_, _, 0, Try.underlying49, rfl, rfl, by kernel_rfl⟩
abbrev und50 := Und.mk (P := Try.prog) (t := 50) Try.underlying50
attribute [instance] und50
instance siz50 : Siz Try.prog 50 4 := ⟨by kernel_rfl⟩
instance byt50 : Byt Try.prog 50 32 := ⟨by kernel_rfl⟩
instance zer50 : Zer Try.prog 50 (.agg #[.int .i64 0, .int .i64 0, .int .i64 0, .int .i64 0]) := ⟨by kernel_rfl⟩
instance fld50x0 : Fld Try.prog 50 0 0 := ⟨_, _, 0, Try.underlying50, rfl, rfl, by kernel_rfl⟩
instance fld50x1 : Fld Try.prog 50 1 1 := ⟨_, _, 0, Try.underlying50, rfl, rfl, by kernel_rfl⟩
instance fld50x2 : Fld Try.prog 50 2 2 := ⟨_, _, 0, Try.underlying50, rfl, rfl, by kernel_rfl⟩
instance fld50x3 : Fld Try.prog 50 3 3 := ⟨_, _, 0, Try.underlying50, rfl, rfl, by kernel_rfl⟩
abbrev und51 := Und.mk (P := Try.prog) (t := 51) Try.underlying51
attribute [instance] und51
instance siz51 : Siz Try.prog 51 6 := ⟨by kernel_rfl⟩
instance byt51 : Byt Try.prog 51 48 := ⟨by kernel_rfl⟩
instance zer51 : Zer Try.prog 51 (.agg #[.int .i64 0, .int .i64 0, .int .i64 0, .int .i64 0, .int .i64 0, .int .i64 0]) := ⟨by kernel_rfl⟩
instance fld51x0 : Fld Try.prog 51 0 0 := ⟨_, _, 0, Try.underlying51, rfl, rfl, by kernel_rfl⟩
instance fld51x1 : Fld Try.prog 51 1 1 := ⟨_, _, 0, Try.underlying51, rfl, rfl, by kernel_rfl⟩
instance fld51x2 : Fld Try.prog 51 2 2 := ⟨_, _, 3, Try.underlying51, rfl, rfl, by kernel_rfl⟩
abbrev und52 := Und.mk (P := Try.prog) (t := 52) Try.underlying52
attribute [instance] und52
instance siz52 : Siz Try.prog 52 6 := ⟨by kernel_rfl⟩
instance byt52 : Byt Try.prog 52 48 := ⟨by kernel_rfl⟩
instance zer52 : Zer Try.prog 52 (.agg #[.int .i64 0, .int .i64 0, .int .i64 0, .int .i64 0, .int .i64 0, .int .i64 0]) := ⟨by kernel_rfl⟩
instance fld52x0 : Fld Try.prog 52 0 0 := ⟨_, _, 0, Try.underlying52, rfl, rfl, by kernel_rfl⟩
instance fld52x1 : Fld Try.prog 52 1 1 := ⟨_, _, 0, Try.underlying52, rfl, rfl, by kernel_rfl⟩
instance fld52x2 : Fld Try.prog 52 2 2 := ⟨_, _, 3, Try.underlying52, rfl, rfl, by kernel_rfl⟩
abbrev und53 := Und.mk (P := Try.prog) (t := 53) Try.underlying53
attribute [instance] und53
instance siz53 : Siz Try.prog 53 1 := ⟨by kernel_rfl⟩
instance byt53 : Byt Try.prog 53 8 := ⟨by kernel_rfl⟩
instance zer53 : Zer Try.prog 53 (.nilFunc) := ⟨by kernel_rfl⟩
abbrev und54 := Und.mk (P := Try.prog) (t := 54) Try.underlying54
attribute [instance] und54
instance siz54 : Siz Try.prog 54 4 := ⟨by kernel_rfl⟩
instance byt54 : Byt Try.prog 54 32 := ⟨by kernel_rfl⟩
instance zer54 : Zer Try.prog 54 (.agg #[.int .i64 0, .int .i64 0, .int .i64 0, .int .i64 0]) := ⟨by kernel_rfl⟩
instance fld54x0 : Fld Try.prog 54 0 0 := ⟨_, _, 0, Try.underlying54, rfl, rfl, by kernel_rfl⟩
instance fld54x1 : Fld Try.prog 54 1 1 := ⟨_, _, 0, Try.underlying54, rfl, rfl, by kernel_rfl⟩
instance fld54x2 : Fld Try.prog 54 2 2 := ⟨_, _, 0, Try.underlying54, rfl, rfl, by kernel_rfl⟩
instance fld54x3 : Fld Try.prog 54 3 3 := ⟨_, _, 0, Try.underlying54, rfl, rfl, by kernel_rfl⟩
abbrev und55 := Und.mk (P := Try.prog) (t := 55) Try.underlying55
attribute [instance] und55
instance siz55 : Siz Try.prog 55 4 := ⟨by kernel_rfl⟩
instance byt55 : Byt Try.prog 55 32 := ⟨by kernel_rfl⟩
instance zer55 : Zer Try.prog 55 (.agg #[.int .i64 0, .int .i64 0, .int .i64 0, .int .i64 0]) := ⟨by kernel_rfl⟩
instance fld55x0 : Fld Try.prog 55 0 0 := ⟨_, _, 0, Try.underlying55, rfl, rfl, by kernel_rfl⟩
instance fld55x1 : Fld Try.prog 55 1 1 := ⟨_, _, 0, Try.underlying55, rfl, rfl, by kernel_rfl⟩
instance fld55x2 : Fld Try.prog 55 2 2 := ⟨_, _, 0, Try.underlying55, rfl, rfl, by kernel_rfl⟩
instance fld55x3 : Fld Try.prog 55 3 3 := ⟨_, _, 0, Try.underlying55, rfl, rfl, by kernel_rfl⟩
abbrev und56 := Und.mk (P := Try.prog) (t := 56) Try.underlying56
attribute [instance] und56
instance siz56 : Siz Try.prog 56 1 := ⟨by kernel_rfl⟩
instance byt56 : Byt Try.prog 56 8 := ⟨by kernel_rfl⟩
instance zer56 : Zer Try.prog 56 (.nilFunc) := ⟨by kernel_rfl⟩
abbrev und57 := Und.mk (P := Try.prog) (t := 57) Try.underlying57
attribute [instance] und57
instance siz57 : Siz Try.prog 57 1 := ⟨by kernel_rfl⟩
instance byt57 : Byt Try.prog 57 8 := ⟨by kernel_rfl⟩
instance zer57 : Zer Try.prog 57 (.nilFunc) := ⟨by kernel_rfl⟩
abbrev und58 := Und.mk (P := Try.prog) (t := 58) Try.underlying58
attribute [instance] und58
instance siz58 : Siz Try.prog 58 1 := ⟨by kernel_rfl⟩
instance byt58 : Byt Try.prog 58 8 := ⟨by kernel_rfl⟩
instance zer58 : Zer Try.prog 58 (.nilFunc) := ⟨by kernel_rfl⟩
abbrev und59 := Und.mk (P := Try.prog) (t := 59) Try.underlying59
attribute [instance] und59
instance siz59 : Siz Try.prog 59 1 := ⟨by kernel_rfl⟩
instance byt59 : Byt Try.prog 59 8 := ⟨by kernel_rfl⟩
instance zer59 : Zer Try.prog 59 (.nilFunc) := ⟨by kernel_rfl⟩
abbrev und60 := Und.mk (P := Try.prog) (t := 60) Try.underlying60
attribute [instance] und60
instance siz60 : Siz Try.prog 60 1 := ⟨by kernel_rfl⟩
instance byt60 : Byt Try.prog 60 8 := ⟨by kernel_rfl⟩
instance zer60 : Zer Try.prog 60 (.nilFunc) := ⟨by kernel_rfl⟩
abbrev und61 := Und.mk (P := Try.prog) (t := 61) Try.underlying61
attribute [instance] und61
instance siz61 : Siz Try.prog 61 1 := ⟨by kernel_rfl⟩
instance byt61 : Byt Try.prog 61 8 := ⟨by kernel_rfl⟩
instance zer61 : Zer Try.prog 61 (.nilFunc) := ⟨by kernel_rfl⟩
abbrev und62 := Und.mk (P := Try.prog) (t := 62) Try.underlying62
attribute [instance] und62
instance siz62 : Siz Try.prog 62 1 := ⟨by kernel_rfl⟩
instance byt62 : Byt Try.prog 62 8 := ⟨by kernel_rfl⟩
instance zer62 : Zer Try.prog 62 (.nilFunc) := ⟨by kernel_rfl⟩
abbrev und63 := Und.mk (P := Try.prog) (t := 63) Try.underlying63
attribute [instance] und63
instance siz63 : Siz Try.prog 63 1 := ⟨by kernel_rfl⟩
instance byt63 : Byt Try.prog 63 8 := ⟨by kernel_rfl⟩
instance zer63 : Zer Try.prog 63 (.nilFunc) := ⟨by kernel_rfl⟩
abbrev und64 := Und.mk (P := Try.prog) (t := 64) Try.underlying64
attribute [instance] und64
instance siz64 : Siz Try.prog 64 1 := ⟨by kernel_rfl⟩
instance byt64 : Byt Try.prog 64 0 := ⟨by kernel_rfl⟩
abbrev und65 := Und.mk (P := Try.prog) (t := 65) Try.underlying65
attribute [instance] und65
instance siz65 : Siz Try.prog 65 1 := ⟨by kernel_rfl⟩
instance byt65 : Byt Try.prog 65 8 := ⟨by kernel_rfl⟩
instance zer65 : Zer Try.prog 65 (.nilFunc) := ⟨by kernel_rfl⟩
abbrev und66 := Und.mk (P := Try.prog) (t := 66) Try.underlying66
attribute [instance] und66
instance siz66 : Siz Try.prog 66 1 := ⟨by kernel_rfl⟩
instance byt66 : Byt Try.prog 66 8 := ⟨by kernel_rfl⟩
instance zer66 : Zer Try.prog 66 (.nilFunc) := ⟨by kernel_rfl⟩
abbrev und67 := Und.mk (P := Try.prog) (t := 67) Try.underlying67
attribute [instance] und67
instance siz67 : Siz Try.prog 67 1 := ⟨by kernel_rfl⟩
instance byt67 : Byt Try.prog 67 8 := ⟨by kernel_rfl⟩
instance zer67 : Zer Try.prog 67 (.nilFunc) := ⟨by kernel_rfl⟩
abbrev und68 := Und.mk (P := Try.prog) (t := 68) Try.underlying68
attribute [instance] und68
instance siz68 : Siz Try.prog 68 1 := ⟨by kernel_rfl⟩
instance byt68 : Byt Try.prog 68 8 := ⟨by kernel_rfl⟩
instance zer68 : Zer Try.prog 68 (.nilFunc) := ⟨by kernel_rfl⟩
abbrev und69 := Und.mk (P := Try.prog) (t := 69) Try.underlying69
attribute [instance] und69
instance siz69 : Siz Try.prog 69 1 := ⟨by kernel_rfl⟩
instance byt69 : Byt Try.prog 69 8 := ⟨by kernel_rfl⟩
instance zer69 : Zer Try.prog 69 (.nilFunc) := ⟨by kernel_rfl⟩
abbrev und70 := Und.mk (P := Try.prog) (t := 70) Try.underlying70
attribute [instance] und70
instance siz70 : Siz Try.prog 70 1 := ⟨by kernel_rfl⟩
instance byt70 : Byt Try.prog 70 8 := ⟨by kernel_rfl⟩
instance zer70 : Zer Try.prog 70 (.nilFunc) := ⟨by kernel_rfl⟩
abbrev und71 := Und.mk (P := Try.prog) (t := 71) Try.underlying71
attribute [instance] und71
instance siz71 : Siz Try.prog 71 1 := ⟨by kernel_rfl⟩
instance byt71 : Byt Try.prog 71 0 := ⟨by kernel_rfl⟩
abbrev und72 := Und.mk (P := Try.prog) (t := 72) Try.underlying72
attribute [instance] und72
instance siz72 : Siz Try.prog 72 1 := ⟨by kernel_rfl⟩
instance byt72 : Byt Try.prog 72 8 := ⟨by kernel_rfl⟩
instance zer72 : Zer Try.prog 72 (.nilFunc) := ⟨by kernel_rfl⟩
abbrev und73 := Und.mk (P := Try.prog) (t := 73) Try.underlying73
attribute [instance] und73
instance siz73 : Siz Try.prog 73 1 := ⟨by kernel_rfl⟩
instance byt73 : Byt Try.prog 73 8 := ⟨by kernel_rfl⟩
instance zer73 : Zer Try.prog 73 (.nilFunc) := ⟨by kernel_rfl⟩
abbrev und74 := Und.mk (P := Try.prog) (t := 74) Try.underlying74
attribute [instance] und74
instance siz74 : Siz Try.prog 74 1 := ⟨by kernel_rfl⟩
instance byt74 : Byt Try.prog 74 8 := ⟨by kernel_rfl⟩
instance zer74 : Zer Try.prog 74 (.nilFunc) := ⟨by kernel_rfl⟩
abbrev und75 := Und.mk (P := Try.prog) (t := 75) Try.underlying75
attribute [instance] und75
instance siz75 : Siz Try.prog 75 1 := ⟨by kernel_rfl⟩
instance byt75 : Byt Try.prog 75 8 := ⟨by kernel_rfl⟩
instance zer75 : Zer Try.prog 75 (.nilFunc) := ⟨by kernel_rfl⟩
abbrev und76 := Und.mk (P := Try.prog) (t := 76) Try.underlying76
attribute [instance] und76
instance siz76 : Siz Try.prog 76 1 := ⟨by kernel_rfl⟩
instance byt76 : Byt Try.prog 76 8 := ⟨by kernel_rfl⟩
instance zer76 : Zer Try.prog 76 (.nilFunc) := ⟨by kernel_rfl⟩
abbrev und77 := Und.mk (P := Try.prog) (t := 77) Try.underlying77
attribute [instance] und77
instance siz77 : Siz Try.prog 77 1 := ⟨by kernel_rfl⟩
instance byt77 : Byt Try.prog 77 8 := ⟨by kernel_rfl⟩
instance zer77 : Zer Try.prog 77 (.nilFunc) := ⟨by kernel_rfl⟩
abbrev und78 := Und.mk (P := Try.prog) (t := 78) Try.underlying78
attribute [instance] und78
instance siz78 : Siz Try.prog 78 1 := ⟨by kernel_rfl⟩
instance byt78 : Byt Try.prog 78 8 := ⟨by kernel_rfl⟩
instance zer78 : Zer Try.prog 78 (.nilFunc) := ⟨by kernel_rfl⟩
abbrev und79 := Und.mk (P := Try.prog) (t := 79) Try.underlying79
attribute [instance] und79
instance siz79 : Siz Try.prog 79 1 := ⟨by kernel_rfl⟩
instance byt79 : Byt Try.prog 79 0 := ⟨by kernel_rfl⟩
abbrev und80 := Und.mk (P := Try.prog) (t := 80) Try.underlying80
attribute [instance] und80
instance siz80 : Siz Try.prog 80 1 := ⟨by kernel_rfl⟩
instance byt80 : Byt Try.prog 80 8 := ⟨by kernel_rfl⟩
instance zer80 : Zer Try.prog 80 (.nilFunc) := ⟨by kernel_rfl⟩
abbrev und81 := Und.mk (P := Try.prog) (t := 81) Try.underlying81
attribute [instance] und81
instance siz81 : Siz Try.prog 81 1 := ⟨by kernel_rfl⟩
instance byt81 : Byt Try.prog 81 8 := ⟨by kernel_rfl⟩
instance zer81 : Zer Try.prog 81 (.nilFunc) := ⟨by kernel_rfl⟩
abbrev und82 := Und.mk (P := Try.prog) (t := 82) Try.underlying82
attribute [instance] und82
instance siz82 : Siz Try.prog 82 1 := ⟨by kernel_rfl⟩
instance byt82 : Byt Try.prog 82 8 := ⟨by kernel_rfl⟩
instance zer82 : Zer Try.prog 82 (.nilFunc) := ⟨by kernel_rfl⟩
abbrev und83 := Und.mk (P := Try.prog) (t := 83) Try.underlying83
attribute [instance] und83
instance siz83 : Siz Try.prog 83 1 := ⟨by kernel_rfl⟩
instance byt83 : Byt Try.prog 83 8 := ⟨by kernel_rfl⟩
instance zer83 : Zer Try.prog 83 (.nilFunc) := ⟨by kernel_rfl⟩
abbrev und84 := Und.mk (P := Try.prog) (t := 84) Try.underlying84
attribute [instance] und84
instance siz84 : Siz Try.prog 84 1 := ⟨by kernel_rfl⟩
instance byt84 : Byt Try.prog 84 8 := ⟨by kernel_rfl⟩
instance zer84 : Zer Try.prog 84 (.nilFunc) := ⟨by kernel_rfl⟩
abbrev und85 := Und.mk (P := Try.prog) (t := 85) Try.underlying85
attribute [instance] und85
instance siz85 : Siz Try.prog 85 1 := ⟨by kernel_rfl⟩
instance byt85 : Byt Try.prog 85 8 := ⟨by kernel_rfl⟩
instance zer85 : Zer Try.prog 85 (.nilFunc) := ⟨by kernel_rfl⟩
abbrev und86 := Und.mk (P := Try.prog) (t := 86) Try.underlying86
attribute [instance] und86
instance siz86 : Siz Try.prog 86 1 := ⟨by kernel_rfl⟩
instance byt86 : Byt Try.prog 86 8 := ⟨by kernel_rfl⟩
instance zer86 : Zer Try.prog 86 (.nilFunc) := ⟨by kernel_rfl⟩
abbrev und87 := Und.mk (P := Try.prog) (t := 87) Try.underlying87
attribute [instance] und87
instance siz87 : Siz Try.prog 87 1 := ⟨by kernel_rfl⟩
instance byt87 : Byt Try.prog 87 8 := ⟨by kernel_rfl⟩
instance zer87 : Zer Try.prog 87 (.nilFunc) := ⟨by kernel_rfl⟩
abbrev und88 := Und.mk (P := Try.prog) (t := 88) Try.underlying88
attribute [instance] und88
instance siz88 : Siz Try.prog 88 1 := ⟨by kernel_rfl⟩
instance byt88 : Byt Try.prog 88 8 := ⟨by kernel_rfl⟩
instance zer88 : Zer Try.prog 88 (.nilFunc) := ⟨by kernel_rfl⟩
abbrev und89 := Und.mk (P := Try.prog) (t := 89) Try.underlying89
attribute [instance] und89
instance siz89 : Siz Try.prog 89 1 := ⟨by kernel_rfl⟩
instance byt89 : Byt Try.prog 89 8 := ⟨by kernel_rfl⟩
instance zer89 : Zer Try.prog 89 (.nilFunc) := ⟨by kernel_rfl⟩
abbrev und90 := Und.mk (P := Try.prog) (t := 90) Try.underlying90
attribute [instance] und90
instance siz90 : Siz Try.prog 90 1 := ⟨by kernel_rfl⟩
instance byt90 : Byt Try.prog 90 8 := ⟨by kernel_rfl⟩
instance zer90 : Zer Try.prog 90 (.nilFunc) := ⟨by kernel_rfl⟩
abbrev und91 := Und.mk (P := Try.prog) (t := 91) Try.underlying91
attribute [instance] und91
instance siz91 : Siz Try.prog 91 1 := ⟨by kernel_rfl⟩
instance byt91 : Byt Try.prog 91 8 := ⟨by kernel_rfl⟩
instance zer91 : Zer Try.prog 91 (.nilFunc) := ⟨by kernel_rfl⟩
abbrev und92 := Und.mk (P := Try.prog) (t := 92) Try.underlying92
attribute [instance] und92
instance siz92 : Siz Try.prog 92 1 := ⟨by kernel_rfl⟩
instance byt92 : Byt Try.prog 92 8 := ⟨by kernel_rfl⟩
instance zer92 : Zer Try.prog 92 (.nilFunc) := ⟨by kernel_rfl⟩
abbrev und93 := Und.mk (P := Try.prog) (t := 93) Try.underlying93
attribute [instance] und93
instance siz93 : Siz Try.prog 93 1 := ⟨by kernel_rfl⟩
instance byt93 : Byt Try.prog 93 8 := ⟨by kernel_rfl⟩
instance zer93 : Zer Try.prog 93 (.nilFunc) := ⟨by kernel_rfl⟩
abbrev und94 := Und.mk (P := Try.prog) (t := 94) Try.underlying94
attribute [instance] und94
instance siz94 : Siz Try.prog 94 1 := ⟨by kernel_rfl⟩
instance byt94 : Byt Try.prog 94 8 := ⟨by kernel_rfl⟩
instance zer94 : Zer Try.prog 94 (.nilFunc) := ⟨by kernel_rfl⟩
abbrev und95 := Und.mk (P := Try.prog) (t := 95) Try.underlying95
attribute [instance] und95
instance siz95 : Siz Try.prog 95 1 := ⟨by kernel_rfl⟩
instance byt95 : Byt Try.prog 95 8 := ⟨by kernel_rfl⟩
instance zer95 : Zer Try.prog 95 (.int .u64 0) := ⟨by kernel_rfl⟩
abbrev und96 := Und.mk (P := Try.prog) (t := 96) Try.underlying96
attribute [instance] und96
instance siz96 : Siz Try.prog 96 1 := ⟨by kernel_rfl⟩
instance byt96 : Byt Try.prog 96 8 := ⟨by kernel_rfl⟩
instance zer96 : Zer Try.prog 96 (.nilFunc) := ⟨by kernel_rfl⟩
abbrev und97 := Und.mk (P := Try.prog) (t := 97) Try.underlying97
attribute [instance] und97
instance siz97 : Siz Try.prog 97 4 := ⟨by kernel_rfl⟩
instance byt97 : Byt Try.prog 97 40 := ⟨by kernel_rfl⟩
instance zer97 : Zer Try.prog 97 (.agg #[.pointer none, .pointer none, .pointer none, .string ByteArray.empty]) := ⟨by kernel_rfl⟩
instance fld97x0 : Fld Try.prog 97 0 0 := ⟨_, _, 0, Try.underlying97, rfl, rfl, by kernel_rfl⟩
instance fld97x1 : Fld Try.prog 97 1 1 := ⟨_, _, 0, Try.underlying97, rfl, rfl, by kernel_rfl⟩
instance fld97x2 : Fld Try.prog 97 2 2 := ⟨_, _, 0, Try.underlying97, rfl, rfl, by kernel_rfl⟩
instance fld97x3 : Fld Try.prog 97 3 3 := ⟨_, _, 0, Try.underlying97, rfl, rfl, by kernel_rfl⟩
abbrev und98 := Und.mk (P := Try.prog) (t := 98) Try.underlying98
attribute [instance] und98
instance siz98 : Siz Try.prog 98 4 := ⟨by kernel_rfl⟩
instance byt98 : Byt Try.prog 98 40 := ⟨by kernel_rfl⟩
instance zer98 : Zer Try.prog 98 (.agg #[.pointer none, .pointer none, .pointer none, .string ByteArray.empty]) := ⟨by kernel_rfl⟩
instance fld98x0 : Fld Try.prog 98 0 0 := ⟨_, _, 0, Try.underlying98, rfl, rfl, by kernel_rfl⟩
instance fld98x1 : Fld Try.prog 98 1 1 := ⟨_, _, 0, Try.underlying98, rfl, rfl, by kernel_rfl⟩
instance fld98x2 : Fld Try.prog 98 2 2 := ⟨_, _, 0, Try.underlying98, rfl, rfl, by kernel_rfl⟩
instance fld98x3 : Fld Try.prog 98 3 3 := ⟨_, _, 0, Try.underlying98, rfl, rfl, by kernel_rfl⟩
abbrev und99 := Und.mk (P := Try.prog) (t := 99) Try.underlying99
attribute [instance] und99
instance siz99 : Siz Try.prog 99 0 := ⟨by kernel_rfl⟩
instance byt99 : Byt Try.prog 99 0 := ⟨by kernel_rfl⟩
instance zer99 : Zer Try.prog 99 (.agg #[]) := ⟨by kernel_rfl⟩
abbrev und100 := Und.mk (P := Try.prog) (t := 100) Try.underlying100
attribute [instance] und100
instance siz100 : Siz Try.prog 100 0 := ⟨by kernel_rfl⟩
instance byt100 : Byt Try.prog 100 0 := ⟨by kernel_rfl⟩
instance zer100 : Zer Try.prog 100 (.agg #[]) := ⟨by kernel_rfl⟩
abbrev und101 := Und.mk (P := Try.prog) (t := 101) Try.underlying101
attribute [instance] und101
instance siz101 : Siz Try.prog 101 0 := ⟨by kernel_rfl⟩
instance byt101 : Byt Try.prog 101 0 := ⟨by kernel_rfl⟩
instance zer101 : Zer Try.prog 101 (.agg #[]) := ⟨by kernel_rfl⟩
abbrev und102 := Und.mk (P := Try.prog) (t := 102) Try.underlying102
attribute [instance] und102
instance siz102 : Siz Try.prog 102 1 := ⟨by kernel_rfl⟩
instance byt102 : Byt Try.prog 102 8 := ⟨by kernel_rfl⟩
instance zer102 : Zer Try.prog 102 (.nilFunc) := ⟨by kernel_rfl⟩
abbrev und103 := Und.mk (P := Try.prog) (t := 103) Try.underlying103
attribute [instance] und103
instance siz103 : Siz Try.prog 103 1 := ⟨by kernel_rfl⟩
instance byt103 : Byt Try.prog 103 4 := ⟨by kernel_rfl⟩
instance zer103 : Zer Try.prog 103 (.int .u32 0) := ⟨by kernel_rfl⟩
abbrev und104 := Und.mk (P := Try.prog) (t := 104) Try.underlying104
attribute [instance] und104
instance siz104 : Siz Try.prog 104 1 := ⟨by kernel_rfl⟩
instance byt104 : Byt Try.prog 104 1 := ⟨by kernel_rfl⟩
instance zer104 : Zer Try.prog 104 (.int .u8 0) := ⟨by kernel_rfl⟩
abbrev und105 := Und.mk (P := Try.prog) (t := 105) Try.underlying105
attribute [instance] und105
instance siz105 : Siz Try.prog 105 1 := ⟨by kernel_rfl⟩
instance byt105 : Byt Try.prog 105 1 := ⟨by kernel_rfl⟩
instance zer105 : Zer Try.prog 105 (.int .u8 0) := ⟨by kernel_rfl⟩
abbrev und106 := Und.mk (P := Try.prog) (t := 106) Try.underlying106
attribute [instance] und106
instance siz106 : Siz Try.prog 106 1 := ⟨by kernel_rfl⟩
instance byt106 : Byt Try.prog 106 8 := ⟨by kernel_rfl⟩
instance zer106 : Zer Try.prog 106 (.nilFunc) := ⟨by kernel_rfl⟩
abbrev und107 := Und.mk (P := Try.prog) (t := 107) Try.underlying107
attribute [instance] und107
instance siz107 : Siz Try.prog 107 1 := ⟨by kernel_rfl⟩
instance byt107 : Byt Try.prog 107 8 := ⟨by kernel_rfl⟩
instance zer107 : Zer Try.prog 107 (.pointer none) := ⟨by kernel_rfl⟩
abbrev und108 := Und.mk (P := Try.prog) (t := 108) Try.underlying108
attribute [instance] und108
instance siz108 : Siz Try.prog 108 1 := ⟨by kernel_rfl⟩
instance byt108 : Byt Try.prog 108 4 := ⟨by kernel_rfl⟩
instance zer108 : Zer Try.prog 108 (.int .i32 0) := ⟨by kernel_rfl⟩
abbrev und109 := Und.mk (P := Try.prog) (t := 109) Try.underlying109
attribute [instance] und109
instance siz109 : Siz Try.prog 109 1 := ⟨by kernel_rfl⟩
instance byt109 : Byt Try.prog 109 4 := ⟨by kernel_rfl⟩
instance zer109 : Zer Try.prog 109 (.int .i32 0) := ⟨by kernel_rfl⟩
abbrev und110 := Und.mk (P := Try.prog) (t := 110) Try.underlying110
attribute [instance] und110
instance siz110 : Siz Try.prog 110 11 := ⟨by kernel_rfl⟩
instance byt110 : Byt Try.prog 110 48 := ⟨by kernel_rfl⟩
instance zer110 : Zer Try.prog 110 (.agg #[.int .u64 0, .int .u64 0, .int .u32 0, .int .u8 0, .int .u8 0, .int .u8 0, .int .u8 0, .nilFunc, .pointer none, .int .i32 0, .int .i32 0]) := ⟨by kernel_rfl⟩
instance fld110x0 : Fld Try.prog 110 0 0 := ⟨_, _, 0, Try.underlying110, rfl, rfl, by kernel_rfl⟩
instance fld110x1 : Fld Try.prog 110 1 1 := ⟨_, _, 0, Try.underlying110, rfl, rfl, by kernel_rfl⟩
instance fld110x2 : Fld Try.prog 110 2 2 := ⟨_, _, 0, Try.underlying110, rfl, rfl, by kernel_rfl⟩
instance fld110x3 : Fld Try.prog 110 3 3 := ⟨_, _, 0, Try.underlying110, rfl, rfl, by kernel_rfl⟩
instance fld110x4 : Fld Try.prog 110 4 4 := ⟨_, _, 0, Try.underlying110, rfl, rfl, by kernel_rfl⟩
instance fld110x5 : Fld Try.prog 110 5 5 := ⟨_, _, 0, Try.underlying110, rfl, rfl, by kernel_rfl⟩
instance fld110x6 : Fld Try.prog 110 6 6 := ⟨_, _, 0, Try.underlying110, rfl, rfl, by kernel_rfl⟩
instance fld110x7 : Fld Try.prog 110 7 7 := ⟨_, _, 0, Try.underlying110, rfl, rfl, by kernel_rfl⟩
instance fld110x8 : Fld Try.prog 110 8 8 := ⟨_, _, 0, Try.underlying110, rfl, rfl, by kernel_rfl⟩
instance fld110x9 : Fld Try.prog 110 9 9 := ⟨_, _, 0, Try.underlying110, rfl, rfl, by kernel_rfl⟩
instance fld110x10 : Fld Try.prog 110 10 10 := ⟨_, _, 0, Try.underlying110, rfl, rfl, by kernel_rfl⟩
abbrev und111 := Und.mk (P := Try.prog) (t := 111) Try.underlying111
attribute [instance] und111
instance siz111 : Siz Try.prog 111 11 := ⟨by kernel_rfl⟩
instance byt111 : Byt Try.prog 111 48 := ⟨by kernel_rfl⟩
instance zer111 : Zer Try.prog 111 (.agg #[.int .u64 0, .int .u64 0, .int .u32 0, .int .u8 0, .int .u8 0, .int .u8 0, .int .u8 0, .nilFunc, .pointer none, .int .i32 0, .int .i32 0]) := ⟨by kernel_rfl⟩
instance fld111x0 : Fld Try.prog 111 0 0 := ⟨_, _, 0, Try.underlying111, rfl, rfl, by kernel_rfl⟩
instance fld111x1 : Fld Try.prog 111 1 1 := ⟨_, _, 0, Try.underlying111, rfl, rfl, by kernel_rfl⟩
instance fld111x2 : Fld Try.prog 111 2 2 := ⟨_, _, 0, Try.underlying111, rfl, rfl, by kernel_rfl⟩
instance fld111x3 : Fld Try.prog 111 3 3 := ⟨_, _, 0, Try.underlying111, rfl, rfl, by kernel_rfl⟩
instance fld111x4 : Fld Try.prog 111 4 4 := ⟨_, _, 0, Try.underlying111, rfl, rfl, by kernel_rfl⟩
instance fld111x5 : Fld Try.prog 111 5 5 := ⟨_, _, 0, Try.underlying111, rfl, rfl, by kernel_rfl⟩
instance fld111x6 : Fld Try.prog 111 6 6 := ⟨_, _, 0, Try.underlying111, rfl, rfl, by kernel_rfl⟩
instance fld111x7 : Fld Try.prog 111 7 7 := ⟨_, _, 0, Try.underlying111, rfl, rfl, by kernel_rfl⟩
instance fld111x8 : Fld Try.prog 111 8 8 := ⟨_, _, 0, Try.underlying111, rfl, rfl, by kernel_rfl⟩
instance fld111x9 : Fld Try.prog 111 9 9 := ⟨_, _, 0, Try.underlying111, rfl, rfl, by kernel_rfl⟩
instance fld111x10 : Fld Try.prog 111 10 10 := ⟨_, _, 0, Try.underlying111, rfl, rfl, by kernel_rfl⟩
abbrev und112 := Und.mk (P := Try.prog) (t := 112) Try.underlying112
attribute [instance] und112
instance siz112 : Siz Try.prog 112 1 := ⟨by kernel_rfl⟩
instance byt112 : Byt Try.prog 112 8 := ⟨by kernel_rfl⟩
instance zer112 : Zer Try.prog 112 (.pointer none) := ⟨by kernel_rfl⟩
instance fun3 : Fun Try.prog 3 Try.f3 := ⟨Try.func3, enters_of Try.func3 (by kernel_rfl) rfl⟩
instance fun4 : Fun Try.prog 4 Try.f4 := ⟨Try.func4, enters_of Try.func4 (by kernel_rfl) rfl⟩
instance fun5 : Fun Try.prog 5 Try.f5 := ⟨Try.func5, enters_of Try.func5 (by kernel_rfl) rfl⟩
instance fun6 : Fun Try.prog 6 Try.f6 := ⟨Try.func6, enters_of Try.func6 (by kernel_rfl) rfl⟩
instance fun7 : Fun Try.prog 7 Try.f7 := ⟨Try.func7, enters_of Try.func7 (by kernel_rfl) rfl⟩
instance fun8 : Fun Try.prog 8 Try.f8 := ⟨Try.func8, enters_of Try.func8 (by kernel_rfl) rfl⟩
instance fun9 : Fun Try.prog 9 Try.f9 := ⟨Try.func9, enters_of Try.func9 (by kernel_rfl) rfl⟩
instance fun10 : Fun Try.prog 10 Try.f10 := ⟨Try.func10, enters_of Try.func10 (by kernel_rfl) rfl⟩
instance fun11 : Fun Try.prog 11 Try.f11 := ⟨Try.func11, enters_of Try.func11 (by kernel_rfl) rfl⟩
instance fun12 : Fun Try.prog 12 Try.f12 := ⟨Try.func12, enters_of Try.func12 (by kernel_rfl) rfl⟩
instance fun13 : Fun Try.prog 13 Try.f13 := ⟨Try.func13, enters_of Try.func13 (by kernel_rfl) rfl⟩
instance fun14 : Fun Try.prog 14 Try.f14 := ⟨Try.func14, enters_of Try.func14 (by kernel_rfl) rfl⟩
instance fun15 : Fun Try.prog 15 Try.f15 := ⟨Try.func15, enters_of Try.func15 (by kernel_rfl) rfl⟩
instance fun16 : Fun Try.prog 16 Try.f16 := ⟨Try.func16, enters_of Try.func16 (by kernel_rfl) rfl⟩
instance fun17 : Fun Try.prog 17 Try.f17 := ⟨Try.func17, enters_of Try.func17 (by kernel_rfl) rfl⟩
instance fun18 : Fun Try.prog 18 Try.f18 := ⟨Try.func18, enters_of Try.func18 (by kernel_rfl) rfl⟩
instance fun19 : Fun Try.prog 19 Try.f19 := ⟨Try.func19, enters_of Try.func19 (by kernel_rfl) rfl⟩
instance fun20 : Fun Try.prog 20 Try.f20 := ⟨Try.func20, enters_of Try.func20 (by kernel_rfl) rfl⟩
instance fun21 : Fun Try.prog 21 Try.f21 := ⟨Try.func21, enters_of Try.func21 (by kernel_rfl) rfl⟩
instance fun22 : Fun Try.prog 22 Try.f22 := ⟨Try.func22, enters_of Try.func22 (by kernel_rfl) rfl⟩
instance fun23 : Fun Try.prog 23 Try.f23 := ⟨Try.func23, enters_of Try.func23 (by kernel_rfl) rfl⟩
instance fun24 : Fun Try.prog 24 Try.f24 := ⟨Try.func24, enters_of Try.func24 (by kernel_rfl) rfl⟩
instance fun25 : Fun Try.prog 25 Try.f25 := ⟨Try.func25, enters_of Try.func25 (by kernel_rfl) rfl⟩
instance fun26 : Fun Try.prog 26 Try.f26 := ⟨Try.func26, enters_of Try.func26 (by kernel_rfl) rfl⟩
instance fun27 : Fun Try.prog 27 Try.f27 := ⟨Try.func27, enters_of Try.func27 (by kernel_rfl) rfl⟩
instance fun28 : Fun Try.prog 28 Try.f28 := ⟨Try.func28, enters_of Try.func28 (by kernel_rfl) rfl⟩
instance fun29 : Fun Try.prog 29 Try.f29 := ⟨Try.func29, enters_of Try.func29 (by kernel_rfl) rfl⟩
instance fun30 : Fun Try.prog 30 Try.f30 := ⟨Try.func30, enters_of Try.func30 (by kernel_rfl) rfl⟩
instance fun31 : Fun Try.prog 31 Try.f31 := ⟨Try.func31, enters_of Try.func31 (by kernel_rfl) rfl⟩
instance fun32 : Fun Try.prog 32 Try.f32 := ⟨Try.func32, enters_of Try.func32 (by kernel_rfl) rfl⟩
instance fun33 : Fun Try.prog 33 Try.f33 := ⟨Try.func33, enters_of Try.func33 (by kernel_rfl) rfl⟩
instance fun34 : Fun Try.prog 34 Try.f34 := ⟨Try.func34, enters_of Try.func34 (by kernel_rfl) rfl⟩
instance fun35 : Fun Try.prog 35 Try.f35 := ⟨Try.func35, enters_of Try.func35 (by kernel_rfl) rfl⟩
instance fun36 : Fun Try.prog 36 Try.f36 := ⟨Try.func36, enters_of Try.func36 (by kernel_rfl) rfl⟩
instance fun37 : Fun Try.prog 37 Try.f37 := ⟨Try.func37, enters_of Try.func37 (by kernel_rfl) rfl⟩
instance fun38 : Fun Try.prog 38 Try.f38 := ⟨Try.func38, enters_of Try.func38 (by kernel_rfl) rfl⟩
instance fun39 : Fun Try.prog 39 Try.f39 := ⟨Try.func39, enters_of Try.func39 (by kernel_rfl) rfl⟩
instance fun40 : Fun Try.prog 40 Try.f40 := ⟨Try.func40, enters_of Try.func40 (by kernel_rfl) rfl⟩
instance fun41 : Fun Try.prog 41 Try.f41 := ⟨Try.func41, enters_of Try.func41 (by kernel_rfl) rfl⟩
instance fun42 : Fun Try.prog 42 Try.f42 := ⟨Try.func42, enters_of Try.func42 (by kernel_rfl) rfl⟩
instance fun43 : Fun Try.prog 43 Try.f43 := ⟨Try.func43, enters_of Try.func43 (by kernel_rfl) rfl⟩
instance fun44 : Fun Try.prog 44 Try.f44 := ⟨Try.func44, enters_of Try.func44 (by kernel_rfl) rfl⟩
instance fun45 : Fun Try.prog 45 Try.f45 := ⟨Try.func45, enters_of Try.func45 (by kernel_rfl) rfl⟩
instance fun46 : Fun Try.prog 46 Try.f46 := ⟨Try.func46, enters_of Try.func46 (by kernel_rfl) rfl⟩
instance fun47 : Fun Try.prog 47 Try.f47 := ⟨Try.func47, enters_of Try.func47 (by kernel_rfl) rfl⟩
instance fun48 : Fun Try.prog 48 Try.f48 := ⟨Try.func48, enters_of Try.func48 (by kernel_rfl) rfl⟩
instance fun49 : Fun Try.prog 49 Try.f49 := ⟨Try.func49, enters_of Try.func49 (by kernel_rfl) rfl⟩
instance fun50 : Fun Try.prog 50 Try.f50 := ⟨Try.func50, enters_of Try.func50 (by kernel_rfl) rfl⟩
instance fun51 : Fun Try.prog 51 Try.f51 := ⟨Try.func51, enters_of Try.func51 (by kernel_rfl) rfl⟩
instance fun52 : Fun Try.prog 52 Try.f52 := ⟨Try.func52, enters_of Try.func52 (by kernel_rfl) rfl⟩
instance fun53 : Fun Try.prog 53 Try.f53 := ⟨Try.func53, enters_of Try.func53 (by kernel_rfl) rfl⟩
instance fun54 : Fun Try.prog 54 Try.f54 := ⟨Try.func54, enters_of Try.func54 (by kernel_rfl) rfl⟩
instance fun55 : Fun Try.prog 55 Try.f55 := ⟨Try.func55, enters_of Try.func55 (by kernel_rfl) rfl⟩
instance fun56 : Fun Try.prog 56 Try.f56 := ⟨Try.func56, enters_of Try.func56 (by kernel_rfl) rfl⟩
instance fun57 : Fun Try.prog 57 Try.f57 := ⟨Try.func57, enters_of Try.func57 (by kernel_rfl) rfl⟩
instance fun58 : Fun Try.prog 58 Try.f58 := ⟨Try.func58, enters_of Try.func58 (by kernel_rfl) rfl⟩
instance fun59 : Fun Try.prog 59 Try.f59 := ⟨Try.func59, enters_of Try.func59 (by kernel_rfl) rfl⟩
instance fun60 : Fun Try.prog 60 Try.f60 := ⟨Try.func60, enters_of Try.func60 (by kernel_rfl) rfl⟩
instance fun61 : Fun Try.prog 61 Try.f61 := ⟨Try.func61, enters_of Try.func61 (by kernel_rfl) rfl⟩
instance fun62 : Fun Try.prog 62 Try.f62 := ⟨Try.func62, enters_of Try.func62 (by kernel_rfl) rfl⟩
instance fun63 : Fun Try.prog 63 Try.f63 := ⟨Try.func63, enters_of Try.func63 (by kernel_rfl) rfl⟩
instance fun64 : Fun Try.prog 64 Try.f64 := ⟨Try.func64, enters_of Try.func64 (by kernel_rfl) rfl⟩
instance fun65 : Fun Try.prog 65 Try.f65 := ⟨Try.func65, enters_of Try.func65 (by kernel_rfl) rfl⟩
instance fun66 : Fun Try.prog 66 Try.f66 := ⟨Try.func66, enters_of Try.func66 (by kernel_rfl) rfl⟩
instance fun67 : Fun Try.prog 67 Try.f67 := ⟨Try.func67, enters_of Try.func67 (by kernel_rfl) rfl⟩
instance fun68 : Fun Try.prog 68 Try.f68 := ⟨Try.func68, enters_of Try.func68 (by kernel_rfl) rfl⟩
instance fun69 : Fun Try.prog 69 Try.f69 := ⟨Try.func69, enters_of Try.func69 (by kernel_rfl) rfl⟩
instance fun70 : Fun Try.prog 70 Try.f70 := ⟨Try.func70, enters_of Try.func70 (by kernel_rfl) rfl⟩
end Go.Proofs.Ytddopcmemiheaaa
