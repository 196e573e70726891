-- printed by a program of this session (NOTES: hprint); not the kit's print
-- minified
-- halved
import Derived.Test.YtgpnkgmghnmmjaaAl
import Derived.Test.YtgpnkgmghnmmjaaQx0
import Derived.Test.YtgpnkgmghnmmjaaQy
import Derived.Test.YtgpnkgmghnmmjaaQx7
import Derived.Test.YtgpnkgmghnmmjaaQx8
namespace Go.Proofs.Ytgpnkgmghnmmjaa.Q
open Go.RowKit Go.Proofs.YtgpnkgmghnmmjaaW.PrintWords Go.Proofs.YtgpnkgmghnmmjaaW.PrintLast Go.Proofs.YtgpnkgmghnmmjaaW.PrintMore
attribute [local go_sem] max2_int min2_int max_two min_two max_three min_three max_four min_four   -- for this text's walks alone
set_option linter.unusedVariables false
set_option linter.unusedSimpArgs false

attribute [local go_sem high] eqA23
def q18_0 : Array Bool := let o := true; let z := false; #[z,z,z,z,z,z,z,z,z,z,z,z,z,z,z,z,z,z,z,z,z,z,z,z,z,z,z,z,z,z,z,z,z,z,z,z,z,z,z,z,z,z,z,z,z,z,z,z,z,z,z,z,z,z,z,z,z,z]
def q18_1 : Array Bool := let o := true; let z := false; #[o,z,z,z,z,z,z,z,z,z,z,z,z,z,z,z,z,z,z,z,z,z,z,z,z,z,z,z,z,z,z,z,z,z,z,z,z,z,z,z,z,z,z,z,z,z,z,z,z,z,z,z,z,z,z,z,z,z]
def q18_2 : Array Bool := let o := true; let z := false; #[o,o,z,z,z,z,z,z,z,z,z,z,z,z,z,z,z,z,z,z,z,z,z,z,z,z,z,z,z,z,z,z,z,z,z,z,z,z,z,z,z,z,z,z,z,z,z,z,z,z,z,z,z,z,z,z,z,z]
def q18_3 : Array Bool := let o := true; let z := false; #[o,o,o,z,z,z,z,z,z,z,z,z,z,z,z,z,z,z,z,z,z,z,z,z,z,z,z,z,z,z,z,z,z,z,z,z,z,z,z,z,z,z,z,z,z,z,z,z,z,z,z,z,z,z,z,z,z,z]
def q18_4 : Array Bool := let o := true; let z := false; #[o,o,o,z,o,z,z,z,z,z,z,z,z,z,z,z,z,z,z,z,z,z,z,z,z,z,z,z,z,z,z,z,z,z,z,z,z,z,z,z,z,z,z,z,z,z,z,z,z,z,z,z,z,z,z,z,z,z]
def q18_5 : Array Bool := let o := true; let z := false; #[o,o,o,o,o,z,z,z,z,z,z,z,z,z,z,z,z,z,z,z,z,z,z,z,z,z,z,z,z,z,z,z,z,z,z,z,z,z,z,z,z,z,z,z,z,z,z,z,z,z,z,z,z,z,z,z,z,z]
def q18_6 : Array Bool := let o := true; let z := false; #[o,o,o,o,o,o,z,z,z,z,z,z,z,z,z,z,z,z,z,z,z,z,z,z,z,z,z,z,z,z,z,z,z,z,z,z,z,z,z,z,z,z,z,z,z,z,z,z,z,z,z,z,z,z,z,z,z,z]
def q18_7 : Array Bool := let o := true; let z := false; #[o,o,o,o,o,o,o,z,z,z,z,z,z,z,z,z,z,z,z,z,z,z,z,z,z,z,z,z,z,z,z,z,z,z,z,z,z,z,z,z,z,z,z,z,z,z,z,z,z,z,z,z,z,z,z,z,z,z]
def q18_8 : Array Bool := let o := true; let z := false; #[o,o,o,o,o,o,o,o,z,z,z,z,z,z,z,z,z,z,z,z,z,z,z,z,z,z,z,z,z,z,z,z,z,z,z,z,z,z,z,z,z,z,z,z,z,z,z,z,z,z,z,z,z,z,z,z,z,z]
def q18_9 : Array Bool := let o := true; let z := false; #[o,o,o,o,o,o,o,o,o,z,z,z,z,z,z,z,z,z,z,z,z,z,z,z,z,z,z,z,z,z,z,z,z,z,z,z,z,z,z,z,z,z,z,z,z,z,z,z,z,z,z,z,z,z,z,z,z,z]
def q18_10 : Array Bool := let o := true; let z := false; #[o,o,o,o,o,o,o,o,o,z,o,z,z,z,z,z,z,z,z,z,z,z,z,z,z,z,z,z,z,z,z,z,z,z,z,z,z,z,z,z,z,z,z,z,z,z,z,z,z,z,z,z,z,z,z,z,z,z]
def q18_11 : Array Bool := let o := true; let z := false; #[o,o,o,o,o,o,o,o,o,o,o,z,z,z,z,z,z,z,z,z,z,z,z,z,z,z,z,z,z,z,z,z,z,z,z,z,z,z,z,z,z,z,z,z,z,z,z,z,z,z,z,z,z,z,z,z,z,z]
def q18_12 : Array Bool := let o := true; let z := false; #[o,o,o,o,o,o,o,o,o,o,o,o,z,z,z,z,z,z,z,z,z,z,z,z,z,z,z,z,z,z,z,z,z,z,z,z,z,z,z,z,z,z,z,z,z,z,z,z,z,z,z,z,z,z,z,z,z,z]
def q18_13 : Array Bool := let o := true; let z := false; #[o,o,o,o,o,o,o,o,o,o,o,o,o,z,z,z,z,z,z,z,z,z,z,z,z,z,z,z,z,z,z,z,z,z,z,z,z,z,z,z,z,z,z,z,z,z,z,z,z,z,z,z,z,z,z,z,z,z]
def q18_14 : Array Bool := let o := true; let z := false; #[o,o,o,o,o,o,o,o,o,o,o,o,o,o,z,z,z,z,z,z,z,z,z,z,z,z,z,z,z,z,z,z,z,z,z,z,z,z,z,z,z,z,z,z,z,z,z,z,z,z,z,z,z,z,z,z,z,z]
def q18_15 : Array Bool := let o := true; let z := false; #[o,o,o,o,o,o,o,o,o,o,o,o,o,o,o,z,z,z,z,z,z,z,z,z,z,z,z,z,z,z,z,z,z,z,z,z,z,z,z,z,z,z,z,z,z,z,z,z,z,z,z,z,z,z,z,z,z,z]
def q18_16 : Array Bool := let o := true; let z := false; #[o,o,o,o,o,o,o,o,o,o,o,o,o,o,o,o,z,z,z,z,z,z,z,z,z,z,z,z,z,z,z,z,z,z,z,z,z,z,z,z,z,z,z,z,z,z,z,z,z,z,z,z,z,z,z,z,z,z]
def q18_17 : Array Bool := let o := true; let z := false; #[o,o,o,o,o,o,o,o,o,o,o,o,o,o,o,o,z,z,o,z,z,z,z,z,z,z,z,z,z,z,z,z,z,z,z,z,z,z,z,z,z,z,z,z,z,z,z,z,z,z,z,z,z,z,z,z,z,z]
def q18_18 : Array Bool := let o := true; let z := false; #[o,o,o,o,o,o,o,o,o,o,o,o,o,o,o,o,o,z,o,z,z,z,z,z,z,z,z,z,z,z,z,z,z,z,z,z,z,z,z,z,z,z,z,z,z,z,z,z,z,z,z,z,z,z,z,z,z,z]
def q18_19 : Array Bool := let o := true; let z := false; #[o,o,o,o,o,o,o,o,o,o,o,o,o,o,o,o,o,o,o,z,z,z,z,z,z,z,z,z,z,z,z,z,z,z,z,z,z,z,z,z,z,z,z,z,z,z,z,z,z,z,z,z,z,z,z,z,z,z]
def q18_20 : Array Bool := let o := true; let z := false; #[o,o,o,o,o,o,o,o,o,o,o,o,o,o,o,o,o,o,o,o,z,z,z,z,z,z,z,z,z,z,z,z,z,z,z,z,z,z,z,z,z,z,z,z,z,z,z,z,z,z,z,z,z,z,z,z,z,z]
def q18_21 : Array Bool := let o := true; let z := false; #[o,o,o,o,o,o,o,o,o,o,o,o,o,o,o,o,o,o,o,o,o,z,z,z,z,z,z,z,z,z,z,z,z,z,z,z,z,z,z,z,z,z,z,z,z,z,z,z,z,z,z,z,z,z,z,z,z,z]
def q18_22 : Array Bool := let o := true; let z := false; #[o,o,o,o,o,o,o,o,o,o,o,o,o,o,o,o,o,o,o,o,o,o,z,z,z,z,z,z,z,z,z,z,z,z,z,z,z,z,z,z,z,z,z,z,z,z,z,z,z,z,z,z,z,z,z,z,z,z]
def q18_23 : Array Bool := let o := true; let z := false; #[o,o,o,o,o,o,o,o,o,o,o,o,o,o,o,o,o,o,o,o,o,o,o,z,z,z,z,z,z,z,z,z,z,z,z,z,z,z,z,z,z,z,z,z,z,z,z,z,z,z,z,z,z,z,z,z,z,z]
def q18_24 : Array Bool := let o := true; let z := false; #[o,o,o,o,o,o,o,o,o,o,o,o,o,o,o,o,o,o,o,o,o,o,o,o,z,z,z,z,z,z,z,z,z,z,z,z,z,z,z,z,z,z,z,z,z,z,z,z,z,z,z,z,z,z,z,z,z,z]
def q18_25 : Array Bool := let o := true; let z := false; #[o,o,o,o,o,o,o,o,o,o,o,o,o,o,o,o,o,o,o,o,o,o,o,o,o,z,z,z,z,z,z,z,z,z,z,z,z,z,z,z,z,z,z,z,z,z,z,z,z,z,z,z,z,z,z,z,z,z]
def q18_26 : Array Bool := let o := true; let z := false; #[o,o,o,o,o,o,o,o,o,o,o,o,o,o,o,o,o,o,o,o,o,o,o,o,o,z,o,z,z,z,z,z,z,z,z,z,z,z,z,z,z,z,z,z,z,z,z,z,z,z,z,z,z,z,z,z,z,z]
def q18_27 : Array Bool := let o := true; let z := false; #[o,o,o,o,o,o,o,o,o,o,o,o,o,o,o,o,o,o,o,o,o,o,o,o,o,z,o,z,z,z,o,z,z,z,z,z,z,z,z,z,z,z,z,z,z,z,z,z,z,z,z,z,z,z,z,z,z,z]
def q18_28 : Array Bool := let o := true; let z := false; #[o,o,o,o,o,o,o,o,o,o,o,o,o,o,o,o,o,o,o,o,o,o,o,o,o,o,o,z,z,z,o,z,z,z,z,z,z,z,z,z,z,z,z,z,z,z,z,z,z,z,z,z,z,z,z,z,z,z]
def q18_29 : Array Bool := let o := true; let z := false; #[o,o,o,o,o,o,o,o,o,o,o,o,o,o,o,o,o,o,o,o,o,o,o,o,o,o,o,o,z,z,o,z,z,z,z,z,z,z,z,z,z,z,z,z,z,z,z,z,z,z,z,z,z,z,z,z,z,z]
def q18_30 : Array Bool := let o := true; let z := false; #[o,o,o,o,o,o,o,o,o,o,o,o,o,o,o,o,o,o,o,o,o,o,o,o,o,o,o,o,o,z,o,z,z,z,z,z,z,z,z,z,z,z,z,z,z,z,z,z,z,z,z,z,z,z,z,z,z,z]
def q18_31 : Array Bool := let o := true; let z := false; #[o,o,o,o,o,o,o,o,o,o,o,o,o,o,o,o,o,o,o,o,o,o,o,o,o,o,o,o,o,o,o,z,z,z,z,z,z,z,z,z,z,z,z,z,z,z,z,z,z,z,z,z,z,z,z,z,z,z]
def q18_32 : Array Bool := let o := true; let z := false; #[o,o,o,o,o,o,o,o,o,o,o,o,o,o,o,o,o,o,o,o,o,o,o,o,o,o,o,o,o,o,o,o,z,z,z,z,z,z,z,z,z,z,z,z,z,z,z,z,z,z,z,z,z,z,z,z,z,z]
def q18_33 : Array Bool := let o := true; let z := false; #[o,o,o,o,o,o,o,o,o,o,o,o,o,o,o,o,o,o,o,o,o,o,o,o,o,o,o,o,o,o,o,o,o,z,z,z,z,z,z,z,z,z,z,z,z,z,z,z,z,z,z,z,z,z,z,z,z,z]
def q18_34 : Array Bool := let o := true; let z := false; #[o,o,o,o,o,o,o,o,o,o,o,o,o,o,o,o,o,o,o,o,o,o,o,o,o,o,o,o,o,o,o,o,o,o,z,z,z,z,z,z,z,z,z,z,z,z,z,z,z,z,z,z,z,z,z,z,z,z]
def q18_35 : Array Bool := let o := true; let z := false; #[o,o,o,o,o,o,o,o,o,o,o,o,o,o,o,o,o,o,o,o,o,o,o,o,o,o,o,o,o,o,o,o,o,o,o,z,z,z,z,z,z,z,z,z,z,z,z,z,z,z,z,z,z,z,z,z,z,z]
def q18_36 : Array Bool := let o := true; let z := false; #[o,o,o,o,o,o,o,o,o,o,o,o,o,o,o,o,o,o,o,o,o,o,o,o,o,o,o,o,o,o,o,o,o,o,o,o,z,z,z,z,z,z,z,z,z,z,z,z,z,z,z,z,z,z,z,z,z,z]
def q18_37 : Array Bool := let o := true; let z := false; #[o,o,o,o,o,o,o,o,o,o,o,o,o,o,o,o,o,o,o,o,o,o,o,o,o,o,o,o,o,o,o,o,o,o,o,o,o,z,z,z,z,z,z,z,z,z,z,z,z,z,z,z,z,z,z,z,z,z]
def q18_38 : Array Bool := let o := true; let z := false; #[o,o,o,o,o,o,o,o,o,o,o,o,o,o,o,o,o,o,o,o,o,o,o,o,o,o,o,o,o,o,o,o,o,o,o,o,o,o,z,z,z,z,z,z,z,z,z,z,z,z,z,z,z,z,z,z,z,z]
def q18_39 : Array Bool := let o := true; let z := false; #[o,o,o,o,o,o,o,o,o,o,o,o,o,o,o,o,o,o,o,o,o,o,o,o,o,o,o,o,o,o,o,o,o,o,o,o,o,o,o,z,z,z,z,z,z,z,z,z,z,z,z,z,z,z,z,z,z,z]
def q18_40 : Array Bool := let o := true; let z := false; #[o,o,o,o,o,o,o,o,o,o,o,o,o,o,o,o,o,o,o,o,o,o,o,o,o,o,o,o,o,o,o,o,o,o,o,o,o,o,o,o,o,o,o,o,z,z,z,z,z,z,z,z,z,z,z,z,z,z]
def q18_41 : Array Bool := let o := true; let z := false; #[o,o,o,o,o,o,o,o,o,o,o,o,o,o,o,o,o,o,o,o,o,o,o,o,o,o,o,o,o,o,o,o,o,o,o,o,o,o,o,o,o,o,o,o,o,z,z,z,z,z,z,z,z,z,z,z,z,z]
def q18_42 : Array Bool := let o := true; let z := false; #[o,o,o,o,o,o,o,o,o,o,o,o,o,o,o,o,o,o,o,o,o,o,o,o,o,o,o,o,o,o,o,o,o,o,o,o,o,o,o,o,o,o,o,o,o,o,z,z,z,z,z,z,z,z,z,z,z,z]
def q18_43 : Array Bool := let o := true; let z := false; #[o,o,o,o,o,o,o,o,o,o,o,o,o,o,o,o,o,o,o,o,o,o,o,o,o,o,o,o,o,o,o,o,o,o,o,o,o,o,o,o,o,o,o,o,o,o,o,z,z,z,z,z,z,z,z,z,z,z]
def q18_44 : Array Bool := let o := true; let z := false; #[o,o,o,o,o,o,o,o,o,o,o,o,o,o,o,o,o,o,o,o,o,o,o,o,o,o,o,o,o,o,o,o,o,o,o,o,o,o,o,o,o,o,o,o,o,o,o,o,z,z,z,z,z,z,z,z,z,z]
def q18_45 : Array Bool := let o := true; let z := false; #[o,o,o,o,o,o,o,o,o,o,o,o,o,o,o,o,o,o,o,o,o,o,o,o,o,o,o,o,o,o,o,o,o,o,o,o,o,o,o,o,o,o,o,o,o,o,o,o,o,z,z,z,z,z,z,z,z,z]
def q18_46 : Array Bool := let o := true; let z := false; #[o,o,o,o,o,o,o,o,o,o,o,o,o,o,o,o,o,o,o,o,o,o,o,o,o,o,o,o,o,o,o,o,o,o,o,o,o,o,o,o,o,o,o,o,o,o,o,o,o,o,z,z,z,z,z,z,z,z]
def q18_47 : Array Bool := let o := true; let z := false; #[o,o,o,o,o,o,o,o,o,o,o,o,o,o,o,o,o,o,o,o,o,o,o,o,o,o,o,o,o,o,o,o,o,o,o,o,o,o,o,o,o,o,o,o,o,o,o,o,o,o,o,z,z,z,z,z,z,z]
def q18_48 : Array Bool := let o := true; let z := false; #[o,o,o,o,o,o,o,o,o,o,o,o,o,o,o,o,o,o,o,o,o,o,o,o,o,o,o,o,o,o,o,o,o,o,o,o,o,o,o,o,o,o,o,o,o,o,o,o,o,o,o,z,o,z,z,z,z,z]
def q18_49 : Array Bool := let o := true; let z := false; #[o,o,o,o,o,o,o,o,o,o,o,o,o,o,o,o,o,o,o,o,o,o,o,o,o,o,o,o,o,o,o,o,o,o,o,o,o,o,o,o,o,o,o,o,o,o,o,o,o,o,o,o,o,z,z,z,z,z]
def q18_50 : Array Bool := let o := true; let z := false; #[o,o,o,o,o,o,o,o,o,o,o,o,o,o,o,o,o,o,o,o,o,o,o,o,o,o,o,o,o,o,o,o,o,o,o,o,o,o,o,o,o,o,o,o,o,o,o,o,o,o,o,o,o,o,z,z,z,z]
def q18_51 : Array Bool := let o := true; let z := false; #[o,o,o,o,o,o,o,o,o,o,o,o,o,o,o,o,o,o,o,o,o,o,o,o,o,o,o,o,o,o,o,o,o,o,o,o,o,o,o,o,o,o,o,o,o,o,o,o,o,o,o,o,o,o,o,z,z,z]
def q18_52 : Array Bool := let o := true; let z := false; #[o,o,o,o,o,o,o,o,o,o,o,o,o,o,o,o,o,o,o,o,o,o,o,o,o,o,o,o,o,o,o,o,o,o,o,o,o,o,o,o,o,o,o,o,o,o,o,o,o,o,o,o,o,o,o,o,z,z]
def q18_53 : Array Bool := let o := true; let z := false; #[o,o,o,o,o,o,o,o,o,o,o,o,o,o,o,o,o,o,o,o,o,o,o,o,o,o,o,o,o,o,o,o,o,o,o,o,o,o,o,o,o,o,o,o,o,o,o,o,o,o,o,o,o,o,o,o,o,z]
def q18_54 : Array Bool := let o := true; let z := false; #[o,o,o,o,o,o,o,o,o,o,o,o,o,o,o,o,o,o,o,o,o,o,o,o,o,o,o,o,o,o,o,o,o,o,o,o,o,o,o,o,o,o,o,o,o,o,o,o,o,o,o,o,o,o,o,o,o,o]
def q18_55 : Array Bool := let o := true; let z := false; #[o,o,o,o,o,o,o,o,o,o,o,o,o,o,o,o,o,o,o,o,o,o,o,o,o,o,o,o,o,o,o,o,o,o,o,o,o,o,o,o,z,z,z,z,z,z,z,z,z,z,z,z,z,z,z,z,z,z]
def q18_56 : Array Bool := let o := true; let z := false; #[o,o,o,o,o,o,o,o,o,o,o,o,o,o,o,o,o,o,o,o,o,o,o,o,o,o,o,o,o,o,o,o,o,o,o,o,o,o,o,o,z,o,z,z,z,z,z,z,z,z,z,z,z,z,z,z,z,z]
def q18_57 : Array Bool := let o := true; let z := false; #[o,o,o,o,o,o,o,o,o,o,o,o,o,o,o,o,o,o,o,o,o,o,o,o,o,o,o,o,o,o,o,o,o,o,o,o,o,o,o,o,o,o,z,z,z,z,z,z,z,z,z,z,z,z,z,z,z,z]
def q18_58 : Array Bool := let o := true; let z := false; #[o,o,o,o,o,o,o,o,o,o,o,o,o,o,o,o,o,o,o,o,o,o,o,o,o,o,o,o,o,o,o,o,o,o,o,o,o,o,o,o,o,o,o,z,z,z,z,z,z,z,z,z,z,z,z,z,z,z]
/-! ### shuttlecocklaw19_BufLater: function 5 -/
def shuttlecocklaw19_BufLater.j0 : Nat → Int → Bool → Int → Int → Int → ByteArray → Option (Bool)
 | 0, _, _, _, _, _, _ => none
 | k + 1, x1, x27, x377000, x377001, x377002, x377003 => if x27 = true then ((shuttlecocklaw19_fixed.f k).bind fun t378 => (some t378)) else ((buf_Put.f k x377000 x377001 x377002 x377003 x1 8 7 ([] : List Int) (⟨#[]⟩ : ByteArray)).bind fun bt379 => (if x377003.toList = ([] : List UInt8) then (if bt379.2.2.2.2 = true then (if bt379.2.2.1 = x1 then (if bt379.1 = x377000 then (if (bt379.2.2.2.1.size : Int) > (x377003.size : Int) then (if 0 ≤ (x377003.size : Int) then (if (x377003.size : Int) ≤ (bt379.2.2.2.1.size : Int) then (if (bt379.2.2.2.1.extract 0 ((x377003.size : Int) : Int).toNat).toList = x377003.toList then (some (bt379.2.1 == x1)) else (none)) else (none)) else (none)) else (none)) else (none)) else (none)) else (none)) else (if x1 < x377002 then (if bt379.2.2.2.2 = true then (none) else (some (bt379.1 == 0 && (bt379.2.1 == 0 && (bt379.2.2.1 == 0 && (bt379.2.2.2.1.toList == ([] : List UInt8))))))) else (if bt379.2.2.2.2 = true then (if bt379.2.2.1 = x1 then (if bt379.1 = x377000 then (if (bt379.2.2.2.1.size : Int) > (x377003.size : Int) then (if 0 ≤ (x377003.size : Int) then (if (x377003.size : Int) ≤ (bt379.2.2.2.1.size : Int) then (if (bt379.2.2.2.1.extract 0 ((x377003.size : Int) : Int).toNat).toList = x377003.toList then (if bt379.2.1 = x377001 then (some true) else (none)) else (none)) else (none)) else (none)) else (none)) else (none)) else (none)) else (none)))))
def shuttlecocklaw19_BufLater.f (k : Nat) (a0_0 : Int) (a0_1 : Int) (a0_2 : Int) (a0_3 : ByteArray) (a1 : Int) : Option (Bool) := (shuttlecocklaw19_fixed.f k).bind fun t377 => (if t377 = true then (if (a0_3.size : Int) > 3000 then (shuttlecocklaw19_BufLater.j0 k a1 true a0_0 a0_1 a0_2 a0_3) else (if a1 < 0 then (shuttlecocklaw19_BufLater.j0 k a1 true a0_0 a0_1 a0_2 a0_3) else (if a1 ≥ 4611686018427387904 then (shuttlecocklaw19_BufLater.j0 k a1 true a0_0 a0_1 a0_2 a0_3) else (shuttlecocklaw19_BufLater.j0 k a1 (decide (a0_2 < 0)) a0_0 a0_1 a0_2 a0_3)))) else (shuttlecocklaw19_BufLater.j0 k a1 true a0_0 a0_1 a0_2 a0_3))
theorem shuttlecocklaw19_BufLater.mono_l : ∀ k, (∀ y0 y1 y2 y3 y4 y5, LeO (shuttlecocklaw19_BufLater.j0 k y0 y1 y2 y3 y4 y5) (shuttlecocklaw19_BufLater.j0 (k + 1) y0 y1 y2 y3 y4 y5))
 | 0 => fun _ _ _ _ _ _ r h => by simp [shuttlecocklaw19_BufLater.j0] at h
 | k + 1 => by
  have ih0 := shuttlecocklaw19_BufLater.mono_l k
  ·
   intro y0 y1 y2 y3 y4 y5
   unfold shuttlecocklaw19_BufLater.j0
   repeat' first
   | (with_reducible exact ih0 _ _ _ _ _ _)
   | (with_reducible exact buf_Put.mono _ _ _ _ _ _ _ _ _ _)
   | (with_reducible exact shuttlecocklaw19_fixed.mono _)
   | (with_reducible exact LeO.refl _)
   | (with_reducible exact LeO.none _)
   | (with_reducible refine LeO.ite ?_ ?_)
   | (with_reducible refine LeO.bind ?_ (fun _ => ?_))
   | exact ih0 _ _ _ _ _ _
   | exact buf_Put.mono _ _ _ _ _ _ _ _ _ _
   | exact shuttlecocklaw19_fixed.mono _
   | exact LeO.none _
   | refine LeO.ite ?_ ?_
   | refine LeO.bind ?_ (fun _ => ?_)
theorem shuttlecocklaw19_BufLater.mono : ∀ a0 a1 a2 a3 a4 k, LeO (shuttlecocklaw19_BufLater.f k a0 a1 a2 a3 a4) (shuttlecocklaw19_BufLater.f (k + 1) a0 a1 a2 a3 a4) := by
 intro a0 a1 a2 a3 a4 k
 have ih0 := shuttlecocklaw19_BufLater.mono_l k
 unfold shuttlecocklaw19_BufLater.f
 repeat' first
   | (with_reducible exact ih0 _ _ _ _ _ _)
   | (with_reducible exact buf_Put.mono _ _ _ _ _ _ _ _ _ _)
   | (with_reducible exact shuttlecocklaw19_fixed.mono _)
   | (with_reducible exact LeO.refl _)
   | (with_reducible exact LeO.none _)
   | (with_reducible refine LeO.ite ?_ ?_)
   | (with_reducible refine LeO.bind ?_ (fun _ => ?_))
   | exact ih0 _ _ _ _ _ _
   | exact buf_Put.mono _ _ _ _ _ _ _ _ _ _
   | exact shuttlecocklaw19_fixed.mono _
   | exact LeO.none _
   | refine LeO.ite ?_ ?_
   | refine LeO.bind ?_ (fun _ => ?_)
def shuttlecocklaw19_BufLater.T6 : Bool × List (List Nat × List Nat) := (true, [([], []), ([0], [0]), ([1], [1]), ([2, 1], [1, 2]), ([1], [1]), ([3, 4, 1], [1, 3, 4]), ([1, 5], [1, 5]), ([6, 1], [6]), ([7], [7]), ([8, 7], [7, 8]), ([7], [7]), ([10, 7], [7, 10]), ([9, 11, 7], [7, 9, 11]), ([7, 12], [7, 12]), ([13, 7], [13]), ([14], [14]), ([15, 14], [14, 15]), ([16, 14], [14, 16]), ([14], [14]), ([18, 14], [14, 18]), ([19, 14], [14, 19]), ([17, 20, 14], [14, 17, 20]), ([14, 21], [14, 21]), ([22, 14], [22]), ([23], [23]), ([24, 23], [23, 24]), ([23], [23]), ([26, 23], [23, 26]), ([27, 23], [23, 27]), ([25, 28, 23], [23, 25, 28]), ([23], [23]), ([30, 23], [23, 30]), ([29, 31, 23], [23, 29, 31]), ([23, 32], [23, 32]), ([33, 23], [33]), ([34], [34]), ([35, 34], [34, 35]), ([36, 34], [34, 36]), ([37, 34, 34], [34, 37]), ([38], [38]), ([39, 38], [38, 39]), ([38], [38]), ([41, 38], [38, 41]), ([40, 42, 38], [38, 40, 42]), ([38, 43, 34], [34, 38, 43]), ([44, 38, 34], [34, 44]), ([45], [45]), ([46, 45], [45, 46]), ([47, 45], [45, 47]), ([48, 45, 45], [45, 48]), ([49], [49]), ([50, 49], [49, 50]), ([49], [49]), ([51, 52, 49], [49, 51, 52]), ([49, 53, 45], [45, 49, 53]), ([45, 54, 34], [34, 45, 54]), ([34, 55], [34, 55]), ([56, 49, 0, 1, 2, 3, 4, 5, 6, 7, 8, 9, 10, 11, 12, 13, 14, 15, 16, 17, 18, 19, 20, 21, 22, 23, 24, 25, 26, 27, 28, 29, 30, 31, 32, 33, 34, 35, 36, 37, 38, 39, 40, 41, 42, 43, 44, 45, 46, 47, 48, 49, 50, 51, 52, 53, 54, 55, 56], [56])])
def shuttlecocklaw19_BufLater.B6 : List Nat := [0, 1, 3, 7, 3, 31, 63, 127, 255, 511, 255, 1279, 4095, 8191, 16383, 32767, 65535, 131071, 32767, 294911, 819199, 2097151, 4194303, 8388607, 16777215, 33554431, 16777215, 83886079, 218103807, 536870911, 16777215, 1090519039, 4294967295, 8589934591, 17179869183, 34359738367, 68719476735, 137438953471, 274877906943, 549755813887, 1099511627775, 549755813887, 2748779069439, 8796093022207, 17592186044415, 35184372088831, 70368744177663, 140737488355327, 281474976710655, 562949953421311, 1125899906842623, 2251799813685247, 1125899906842623, 9007199254740991, 18014398509481983, 36028797018963967, 72057594037927935, 144115188075855871]
theorem shuttlecocklaw19_BufLater.tab6 : rtab .any (opsOf Try.f5 6) = shuttlecocklaw19_BufLater.T6 := by kernel_rfl
theorem shuttlecocklaw19_BufLater.bits6 : waitsOk shuttlecocklaw19_BufLater.T6.2 shuttlecocklaw19_BufLater.B6 = true := by kernel_rfl
set_option maxHeartbeats 8000000 in
set_option maxRecDepth 100000 in
theorem shuttlecocklaw19_BufLater.calls (k : Nat) (a0_0 : Int) (a0_1 : Int) (a0_2 : Int) (a0_3 : ByteArray) (a1 : Int) (r : Bool) (w : World) (h : shuttlecocklaw19_BufLater.f k a0_0 a0_1 a0_2 a0_3 a1 = some r) :
  Calls Try.prog 5 #[.agg #[.int .i64 a0_0, .int .i64 a0_1, .int .i64 a0_2, .string a0_3], .int .i64 a1] w fun e w' => e = .returned (.bool r) ∧ Below w.heap.size w w' := by
 have hu23 := Try.underlying23
 have hu28 := Try.underlying28
 have HB := Am (Below.refl w.heap.size w)
 have H : ((shuttlecocklaw19_fixed.f k).bind fun t377 => (if t377 = true then (if (a0_3.size : Int) > 3000 then (shuttlecocklaw19_BufLater.j0 k a1 true a0_0 a0_1 a0_2 a0_3) else (if a1 < 0 then (shuttlecocklaw19_BufLater.j0 k a1 true a0_0 a0_1 a0_2 a0_3) else (if a1 ≥ 4611686018427387904 then (shuttlecocklaw19_BufLater.j0 k a1 true a0_0 a0_1 a0_2 a0_3) else (shuttlecocklaw19_BufLater.j0 k a1 (decide (a0_2 < 0)) a0_0 a0_1 a0_2 a0_3)))) else (shuttlecocklaw19_BufLater.j0 k a1 true a0_0 a0_1 a0_2 a0_3))) = some r := h
 clear h
 have HC3 := Am H
 clear H
 go_enter Try.func5, Try.ntmps5
 go_upto_region 1 with (first | ((with_reducible refine gate_dst (N := 2) rfl ?_); (try (refine gate_guard (by rfl) ?_; dsimp only)); refine box_event ?hg (N := 2) ?hd (cs := #[.int .i64 a0_0, .int .i64 a0_1, .int .i64 a0_2, .string a0_3]) (t := 23) ?hr ?_; (case hd => rfl); (case hg => rfl); (case hr => first | (go_simp; done) | (go_simp; rfl)); intro gb376 hg w4 hbox hb; have n0_ := Am (below_step (by repeat (first | (with_reducible first | exact HB.out | apply bl | apply pN | apply b1) | exact HB.out | exact HBo.out)) hb); have n1_ := Am (hbox); have n2_ := Am ((by rw [hg]; exact (below_size (by repeat (first | (with_reducible first | exact HB.out | apply bl | apply pN | apply b1) | exact HB.out | exact HBo.out))) : w.heap.size ≤ gb376)); have n3_ := Am ((by rw [hg]; exact (below_size (by repeat (first | (with_reducible first | exact HB.out | apply bl | apply pN | apply b1) | exact HB.out | exact HBo.out))) : w.heap.size ≤ gb376)); clear HB; have HB := n0_; have BK376 := n1_; have GW376 := n2_; have GE376 := n3_; clear n0_ n1_ n2_ n3_; clear hb hbox hg))
 (try simp only [Act.put, sI, sZ, sS])
 go_cut [27] (fun v27 wc => ∃ (kq : Nat) (x27_2 : Bool), v27 = .bool x27_2 ∧ Aside0 (shuttlecocklaw19_BufLater.j0 kq a1 x27_2 a0_0 a0_1 a0_2 a0_3 = some r) ∧ Aside0 (kq ≤ k) ∧ Aside0 (wc.heap[gb376]? = some (.cells #[.int .i64 a0_0, .int .i64 a0_1, .int .i64 a0_2, .string a0_3] 23 (0, 0))) ∧ Aside0 (Below w.heap.size w wc))
 case first =>
  have H := HC3.out
  clear HC3
  replace H := ob H
  obtain ⟨t377, A50, H⟩ := H
  replace H : (if t377 = true then (if (a0_3.size : Int) > 3000 then (shuttlecocklaw19_BufLater.j0 k a1 true a0_0 a0_1 a0_2 a0_3) else (if a1 < 0 then (shuttlecocklaw19_BufLater.j0 k a1 true a0_0 a0_1 a0_2 a0_3) else (if a1 ≥ 4611686018427387904 then (shuttlecocklaw19_BufLater.j0 k a1 true a0_0 a0_1 a0_2 a0_3) else (shuttlecocklaw19_BufLater.j0 k a1 (decide (a0_2 < 0)) a0_0 a0_1 a0_2 a0_3)))) else (shuttlecocklaw19_BufLater.j0 k a1 true a0_0 a0_1 a0_2 a0_3)) = some r := H
  have A5 := Am A50
  clear A50
  by_cases c6 : t377 = true
  ·
   subst c6
   have H1 : (if (a0_3.size : Int) > 3000 then (shuttlecocklaw19_BufLater.j0 k a1 true a0_0 a0_1 a0_2 a0_3) else (if a1 < 0 then (shuttlecocklaw19_BufLater.j0 k a1 true a0_0 a0_1 a0_2 a0_3) else (if a1 ≥ 4611686018427387904 then (shuttlecocklaw19_BufLater.j0 k a1 true a0_0 a0_1 a0_2 a0_3) else (shuttlecocklaw19_BufLater.j0 k a1 (decide (a0_2 < 0)) a0_0 a0_1 a0_2 a0_3)))) = some r := by rw [if_pos rfl] at H; exact H
   clear H
   have H := H1
   clear H1
   by_cases c7 : (a0_3.size : Int) > 3000
   ·
    rw [if_pos c7] at H
    have c7b0 : decide (3000 < (a0_3.size : Int)) = true := decide_eq_true c7
    have c7b1 : decide (3000 < a0_3.size) = true := decide_eq_true (by omega)
    clear c7
    (first | rw [c7b0] | (simp only [i64_w, i32_w]; rw [c7b0]) | skip)
    have H' := Am H
    clear H
    go_wp2_with (first | ((with_reducible refine gate_callee (f := 9) rfl ?_); refine goesL_ (some 7) rfl rfl Try.func9 (by kernel_rfl) rfl #[] rfl (by (try simp only [List.map_toArray, List.map_cons, List.map_nil]); first | done | rfl | (simp only [List.length_drop, List.length_take]; rfl)) ?_; (with_reducible refine (shuttlecocklaw19_fixed.calls k  true _ A5.out).mono ?_); rintro e w8 ⟨rfl, hb⟩; refine ⟨_, rfl, ?_⟩; have n0_ := Am (blk_below (g := gb376) (o := .cells #[.int .i64 a0_0, .int .i64 a0_1, .int .i64 a0_2, .string a0_3] 23 (0, 0)) (by (with_reducible repeat (first | refine bn ?_ _ | refine bd ?_ | refine ba ?_ _)); exact BK376.out) hb); have n1_ := Am (below_step (by repeat (first | (with_reducible first | exact HB.out | apply bl | apply pN | apply b1 | refine bs ?_ GE376.out) | exact HB.out | exact HBo.out)) hb); clear BK376; clear HB; have BK376 := n0_; have HB := n1_; clear n0_ n1_; (try clear hb); (try clear hb2); (try clear hk); (try clear hi); have hcz9_0 : w8.cell? ⟨gb376, 0, none⟩ = some (.int .i64 a0_0) := (bc BK376.out 0).trans rfl; have hcz9_1 : w8.cell? ⟨gb376, 1, none⟩ = some (.int .i64 a0_1) := (bc BK376.out 1).trans rfl; have hcz9_2 : w8.cell? ⟨gb376, 2, none⟩ = some (.int .i64 a0_2) := (bc BK376.out 2).trans rfl; have hcz9_3 : w8.cell? ⟨gb376, 3, none⟩ = some (.string a0_3) := (bc BK376.out 3).trans rfl; have hfz9_0 := bf BK376.out 0; have hfz9_1 := bf BK376.out 1; have hfz9_2 := bf BK376.out 2; have hfz9_3 := bf BK376.out 3))
    go_meet
    case rel => exact ⟨_, (true), (by first | rfl | (simp; done) | (simp [*]; done)), H', ⟨by first | omega | exact Nat.le_refl _⟩, ⟨by (with_reducible repeat (first | refine bn ?_ _ | refine bd ?_ | refine ba ?_ _)); exact BK376.out⟩, ⟨by repeat (first | (with_reducible first | exact HB.out | apply bl | apply pN | apply b1 | refine bs ?_ GE376.out) | exact HB.out | exact HBo.out)⟩⟩
   ·
    rw [if_neg c7] at H
    have c7b0 : decide (3000 < (a0_3.size : Int)) = false := decide_eq_false c7
    have c7b1 : decide (3000 < a0_3.size) = false := decide_eq_false (by omega)
    clear c7
    (first | rw [c7b0] | (simp only [i64_w, i32_w]; rw [c7b0]) | skip)
    by_cases c10 : a1 < 0
    ·
     rw [if_pos c10] at H
     have c10b0 : decide (a1 < 0) = true := decide_eq_true c10
     clear c10
     have H' := Am H
     clear H
     go_wp2_with (first | ((with_reducible refine gate_callee (f := 9) rfl ?_); refine goesL_ (some 7) rfl rfl Try.func9 (by kernel_rfl) rfl #[] rfl (by (try simp only [List.map_toArray, List.map_cons, List.map_nil]); first | done | rfl | (simp only [List.length_drop, List.length_take]; rfl)) ?_; (with_reducible refine (shuttlecocklaw19_fixed.calls k  true _ A5.out).mono ?_); rintro e w11 ⟨rfl, hb⟩; refine ⟨_, rfl, ?_⟩; have n0_ := Am (blk_below (g := gb376) (o := .cells #[.int .i64 a0_0, .int .i64 a0_1, .int .i64 a0_2, .string a0_3] 23 (0, 0)) (by (with_reducible repeat (first | refine bn ?_ _ | refine bd ?_ | refine ba ?_ _)); exact BK376.out) hb); have n1_ := Am (below_step (by repeat (first | (with_reducible first | exact HB.out | apply bl | apply pN | apply b1 | refine bs ?_ GE376.out) | exact HB.out | exact HBo.out)) hb); clear BK376; clear HB; have BK376 := n0_; have HB := n1_; clear n0_ n1_; (try clear hb); (try clear hb2); (try clear hk); (try clear hi); have hcz12_0 : w11.cell? ⟨gb376, 0, none⟩ = some (.int .i64 a0_0) := (bc BK376.out 0).trans rfl; have hcz12_1 : w11.cell? ⟨gb376, 1, none⟩ = some (.int .i64 a0_1) := (bc BK376.out 1).trans rfl; have hcz12_2 : w11.cell? ⟨gb376, 2, none⟩ = some (.int .i64 a0_2) := (bc BK376.out 2).trans rfl; have hcz12_3 : w11.cell? ⟨gb376, 3, none⟩ = some (.string a0_3) := (bc BK376.out 3).trans rfl; have hfz12_0 := bf BK376.out 0; have hfz12_1 := bf BK376.out 1; have hfz12_2 := bf BK376.out 2; have hfz12_3 := bf BK376.out 3))
     go_meet
     case rel => exact ⟨_, (true), (by first | rfl | (simp; done) | (simp [*]; done)), H', ⟨by first | omega | exact Nat.le_refl _⟩, ⟨by (with_reducible repeat (first | refine bn ?_ _ | refine bd ?_ | refine ba ?_ _)); exact BK376.out⟩, ⟨by repeat (first | (with_reducible first | exact HB.out | apply bl | apply pN | apply b1 | refine bs ?_ GE376.out) | exact HB.out | exact HBo.out)⟩⟩
    ·
     rw [if_neg c10] at H
     have c10b0 : decide (a1 < 0) = false := decide_eq_false c10
     clear c10
     by_cases c13 : a1 ≥ 4611686018427387904
     ·
      rw [if_pos c13] at H
      have c13b0 : decide (4611686018427387904 ≤ a1) = true := decide_eq_true c13
      clear c13
      have H' := Am H
      clear H
      go_wp2_with (first | ((with_reducible refine gate_callee (f := 9) rfl ?_); refine goesL_ (some 7) rfl rfl Try.func9 (by kernel_rfl) rfl #[] rfl (by (try simp only [List.map_toArray, List.map_cons, List.map_nil]); first | done | rfl | (simp only [List.length_drop, List.length_take]; rfl)) ?_; (with_reducible refine (shuttlecocklaw19_fixed.calls k  true _ A5.out).mono ?_); rintro e w14 ⟨rfl, hb⟩; refine ⟨_, rfl, ?_⟩; have n0_ := Am (blk_below (g := gb376) (o := .cells #[.int .i64 a0_0, .int .i64 a0_1, .int .i64 a0_2, .string a0_3] 23 (0, 0)) (by (with_reducible repeat (first | refine bn ?_ _ | refine bd ?_ | refine ba ?_ _)); exact BK376.out) hb); have n1_ := Am (below_step (by repeat (first | (with_reducible first | exact HB.out | apply bl | apply pN | apply b1 | refine bs ?_ GE376.out) | exact HB.out | exact HBo.out)) hb); clear BK376; clear HB; have BK376 := n0_; have HB := n1_; clear n0_ n1_; (try clear hb); (try clear hb2); (try clear hk); (try clear hi); have hcz15_0 : w14.cell? ⟨gb376, 0, none⟩ = some (.int .i64 a0_0) := (bc BK376.out 0).trans rfl; have hcz15_1 : w14.cell? ⟨gb376, 1, none⟩ = some (.int .i64 a0_1) := (bc BK376.out 1).trans rfl; have hcz15_2 : w14.cell? ⟨gb376, 2, none⟩ = some (.int .i64 a0_2) := (bc BK376.out 2).trans rfl; have hcz15_3 : w14.cell? ⟨gb376, 3, none⟩ = some (.string a0_3) := (bc BK376.out 3).trans rfl; have hfz15_0 := bf BK376.out 0; have hfz15_1 := bf BK376.out 1; have hfz15_2 := bf BK376.out 2; have hfz15_3 := bf BK376.out 3))
      go_meet
      case rel => exact ⟨_, (true), (by first | rfl | (simp; done) | (simp [*]; done)), H', ⟨by first | omega | exact Nat.le_refl _⟩, ⟨by (with_reducible repeat (first | refine bn ?_ _ | refine bd ?_ | refine ba ?_ _)); exact BK376.out⟩, ⟨by repeat (first | (with_reducible first | exact HB.out | apply bl | apply pN | apply b1 | refine bs ?_ GE376.out) | exact HB.out | exact HBo.out)⟩⟩
     ·
      rw [if_neg c13] at H
      have c13b0 : decide (4611686018427387904 ≤ a1) = false := decide_eq_false c13
      clear c13
      have H' := Am H
      clear H
      go_wp2_with (first | ((with_reducible refine gate_callee (f := 9) rfl ?_); refine goesL_ (some 7) rfl rfl Try.func9 (by kernel_rfl) rfl #[] rfl (by (try simp only [List.map_toArray, List.map_cons, List.map_nil]); first | done | rfl | (simp only [List.length_drop, List.length_take]; rfl)) ?_; (with_reducible refine (shuttlecocklaw19_fixed.calls k  true _ A5.out).mono ?_); rintro e w16 ⟨rfl, hb⟩; refine ⟨_, rfl, ?_⟩; have n0_ := Am (blk_below (g := gb376) (o := .cells #[.int .i64 a0_0, .int .i64 a0_1, .int .i64 a0_2, .string a0_3] 23 (0, 0)) (by (with_reducible repeat (first | refine bn ?_ _ | refine bd ?_ | refine ba ?_ _)); exact BK376.out) hb); have n1_ := Am (below_step (by repeat (first | (with_reducible first | exact HB.out | apply bl | apply pN | apply b1 | refine bs ?_ GE376.out) | exact HB.out | exact HBo.out)) hb); clear BK376; clear HB; have BK376 := n0_; have HB := n1_; clear n0_ n1_; (try clear hb); (try clear hb2); (try clear hk); (try clear hi); have hcz17_0 : w16.cell? ⟨gb376, 0, none⟩ = some (.int .i64 a0_0) := (bc BK376.out 0).trans rfl; have hcz17_1 : w16.cell? ⟨gb376, 1, none⟩ = some (.int .i64 a0_1) := (bc BK376.out 1).trans rfl; have hcz17_2 : w16.cell? ⟨gb376, 2, none⟩ = some (.int .i64 a0_2) := (bc BK376.out 2).trans rfl; have hcz17_3 : w16.cell? ⟨gb376, 3, none⟩ = some (.string a0_3) := (bc BK376.out 3).trans rfl; have hfz17_0 := bf BK376.out 0; have hfz17_1 := bf BK376.out 1; have hfz17_2 := bf BK376.out 2; have hfz17_3 := bf BK376.out 3))
      go_meet
      case rel => exact ⟨_, (decide (a0_2 < 0)), (by first | rfl | (simp; done) | (simp [*]; done)), H', ⟨by first | omega | exact Nat.le_refl _⟩, ⟨by (with_reducible repeat (first | refine bn ?_ _ | refine bd ?_ | refine ba ?_ _)); exact BK376.out⟩, ⟨by repeat (first | (with_reducible first | exact HB.out | apply bl | apply pN | apply b1 | refine bs ?_ GE376.out) | exact HB.out | exact HBo.out)⟩⟩
  ·
   replace c6 := Bool.eq_false_iff.mpr c6
   subst c6
   have H1 : (shuttlecocklaw19_BufLater.j0 k a1 true a0_0 a0_1 a0_2 a0_3) = some r := by rw [if_neg (show ¬ (false = true) by decide)] at H; exact H
   clear H
   have H := H1
   clear H1
   have H' := Am H
   clear H
   go_wp2_with (first | ((with_reducible refine gate_callee (f := 9) rfl ?_); refine goesL_ (some 7) rfl rfl Try.func9 (by kernel_rfl) rfl #[] rfl (by (try simp only [List.map_toArray, List.map_cons, List.map_nil]); first | done | rfl | (simp only [List.length_drop, List.length_take]; rfl)) ?_; (with_reducible refine (shuttlecocklaw19_fixed.calls k  false _ A5.out).mono ?_); rintro e w18 ⟨rfl, hb⟩; refine ⟨_, rfl, ?_⟩; have n0_ := Am (blk_below (g := gb376) (o := .cells #[.int .i64 a0_0, .int .i64 a0_1, .int .i64 a0_2, .string a0_3] 23 (0, 0)) (by (with_reducible repeat (first | refine bn ?_ _ | refine bd ?_ | refine ba ?_ _)); exact BK376.out) hb); have n1_ := Am (below_step (by repeat (first | (with_reducible first | exact HB.out | apply bl | apply pN | apply b1 | refine bs ?_ GE376.out) | exact HB.out | exact HBo.out)) hb); clear BK376; clear HB; have BK376 := n0_; have HB := n1_; clear n0_ n1_; (try clear hb); (try clear hb2); (try clear hk); (try clear hi)))
   go_meet
   case rel => exact ⟨_, (true), (by first | rfl | (simp; done) | (simp [*]; done)), H', ⟨by first | omega | exact Nat.le_refl _⟩, ⟨by (with_reducible repeat (first | refine bn ?_ _ | refine bd ?_ | refine ba ?_ _)); exact BK376.out⟩, ⟨by repeat (first | (with_reducible first | exact HB.out | apply bl | apply pN | apply b1 | refine bs ?_ GE376.out) | exact HB.out | exact HBo.out)⟩⟩
 case rest =>
  clear HC3
  try clear c1
  try clear p2
  try clear c5
  try clear c6
  try clear c7
  try clear c7b0
  try clear c7b1
  try clear c9
  try clear c10
  try clear c10b0
  try clear c13
  try clear c13b0
  try clear hcz12_0
  try clear hcz12_1
  try clear hcz12_2
  try clear hcz12_3
  try clear hcz15_0
  try clear hcz15_1
  try clear hcz15_2
  try clear hcz15_3
  try clear hcz17_0
  try clear hcz17_1
  try clear hcz17_2
  try clear hcz17_3
  try clear hcz9_0
  try clear hcz9_1
  try clear hcz9_2
  try clear hcz9_3
  try clear hfz12_0
  try clear hfz12_1
  try clear hfz12_2
  try clear hfz12_3
  try clear hfz15_0
  try clear hfz15_1
  try clear hfz15_2
  try clear hfz15_3
  try clear hfz17_0
  try clear hfz17_1
  try clear hfz17_2
  try clear hfz17_3
  try clear hfz9_0
  try clear hfz9_1
  try clear hfz9_2
  try clear hfz9_3
  obtain ⟨kq, x27_2, rfl, HA, HJ2, BK376, HB⟩ := hcut
  cases kq with
  | zero => exact absurd HA.out (by simp [shuttlecocklaw19_BufLater.j0])
  | succ kj2 =>
   have H := HA.out
   clear HA
   simp only [shuttlecocklaw19_BufLater.j0] at H
   by_cases c19 : x27_2 = true
   ·
    subst c19
    have H1 : ((shuttlecocklaw19_fixed.f kj2).bind fun t378 => (some t378)) = some r := by rw [if_pos rfl] at H; exact H
    clear H
    have H := H1
    clear H1
    replace H := ob H
    obtain ⟨t378, A200, H⟩ := H
    replace H : (some t378) = some r := H
    have A20 := Am A200
    clear A200
    obtain rfl := Option.some.inj H
    go_wp2_with (first | ((with_reducible refine gate_callee (f := 9) rfl ?_); refine goesL_ (some 28) rfl rfl Try.func9 (by kernel_rfl) rfl #[] rfl (by (try simp only [List.map_toArray, List.map_cons, List.map_nil]); first | done | rfl | (simp only [List.length_drop, List.length_take]; rfl)) ?_; (with_reducible refine (shuttlecocklaw19_fixed.calls kj2  t378 _ A20.out).mono ?_); rintro e w21 ⟨rfl, hb⟩; refine ⟨_, rfl, ?_⟩; have n0_ := Am (blk_below (g := gb376) (o := .cells #[.int .i64 a0_0, .int .i64 a0_1, .int .i64 a0_2, .string a0_3] 23 (0, 0)) (by (with_reducible repeat (first | refine bn ?_ _ | refine bd ?_ | refine ba ?_ _)); exact BK376.out) hb); have n1_ := Am (below_step (by repeat (first | (with_reducible first | exact HB.out | apply bl | apply pN | apply b1 | refine bs ?_ GE376.out) | exact HB.out | exact HBo.out)) hb); clear BK376; clear HB; have BK376 := n0_; have HB := n1_; clear n0_ n1_; (try clear hb); (try clear hb2); (try clear hk); (try clear hi)))
    go_ret
    exact ⟨by first | rfl | (simp [errW_none, errW_some] <;> rfl) | (simp [*, errW_none, errW_some] <;> rfl) | (simp [Aid.ne_nil, Aid.eq_nil, errW_none, errW_some]; done), by repeat (first | (with_reducible first | exact HB.out | apply bl | apply pN | apply b1 | refine bs ?_ GE376.out) | exact HB.out | exact HBo.out)⟩
   ·
    replace c19 := Bool.eq_false_iff.mpr c19
    subst c19
    have H1 : ((buf_Put.f kj2 a0_0 a0_1 a0_2 a0_3 a1 8 7 ([] : List Int) (⟨#[]⟩ : ByteArray)).bind fun bt379 => (if a0_3.toList = ([] : List UInt8) then (if bt379.2.2.2.2 = true then (if bt379.2.2.1 = a1 then (if bt379.1 = a0_0 then (if (bt379.2.2.2.1.size : Int) > (a0_3.size : Int) then (if 0 ≤ (a0_3.size : Int) then (if (a0_3.size : Int) ≤ (bt379.2.2.2.1.size : Int) then (if (bt379.2.2.2.1.extract 0 ((a0_3.size : Int) : Int).toNat).toList = a0_3.toList then (some (bt379.2.1 == a1)) else (none)) else (none)) else (none)) else (none)) else (none)) else (none)) else (none)) else (if a1 < a0_2 then (if bt379.2.2.2.2 = true then (none) else (some (bt379.1 == 0 && (bt379.2.1 == 0 && (bt379.2.2.1 == 0 && (bt379.2.2.2.1.toList == ([] : List UInt8))))))) else (if bt379.2.2.2.2 = true then (if bt379.2.2.1 = a1 then (if bt379.1 = a0_0 then (if (bt379.2.2.2.1.size : Int) > (a0_3.size : Int) then (if 0 ≤ (a0_3.size : Int) then (if (a0_3.size : Int) ≤ (bt379.2.2.2.1.size : Int) then (if (bt379.2.2.2.1.extract 0 ((a0_3.size : Int) : Int).toNat).toList = a0_3.toList then (if bt379.2.1 = a0_1 then (some true) else (none)) else (none)) else (none)) else (none)) else (none)) else (none)) else (none)) else (none))))) = some r := by rw [if_neg (show ¬ (false = true) by decide)] at H; exact H
    clear H
    have H := H1
    clear H1
    replace H := ob H
    obtain ⟨⟨t379, t380, t381, t382, t383⟩, A220, H⟩ := H
    replace H : (if a0_3.toList = ([] : List UInt8) then (if t383 = true then (if t381 = a1 then (if t379 = a0_0 then (if (t382.size : Int) > (a0_3.size : Int) then (if 0 ≤ (a0_3.size : Int) then (if (a0_3.size : Int) ≤ (t382.size : Int) then (if (t382.extract 0 ((a0_3.size : Int) : Int).toNat).toList = a0_3.toList then (some (t380 == a1)) else (none)) else (none)) else (none)) else (none)) else (none)) else (none)) else (none)) else (if a1 < a0_2 then (if t383 = true then (none) else (some (t379 == 0 && (t380 == 0 && (t381 == 0 && (t382.toList == ([] : List UInt8))))))) else (if t383 = true then (if t381 = a1 then (if t379 = a0_0 then (if (t382.size : Int) > (a0_3.size : Int) then (if 0 ≤ (a0_3.size : Int) then (if (a0_3.size : Int) ≤ (t382.size : Int) then (if (t382.extract 0 ((a0_3.size : Int) : Int).toNat).toList = a0_3.toList then (if t380 = a0_1 then (some true) else (none)) else (none)) else (none)) else (none)) else (none)) else (none)) else (none)) else (none)))) = some r := H
    have A22 := Am A220
    clear A220
    by_cases c23 : a0_3.toList = ([] : List UInt8)
    ·
     rw [if_pos c23] at H
     have c23b0 : (a0_3.toList == ([] : List UInt8)) = true := beq_iff_eq.mpr c23
     try have c23b9 : (a0_3.toList).isEmpty = true := List.isEmpty_iff.2 c23
     have c23b1 : (a0_3.toList != ([] : List UInt8)) = false := bne_eq_false_iff_eq.mpr c23
     clear c23
     by_cases c24 : t383 = true
     ·
      subst c24
      have H1 : (if t381 = a1 then (if t379 = a0_0 then (if (t382.size : Int) > (a0_3.size : Int) then (if 0 ≤ (a0_3.size : Int) then (if (a0_3.size : Int) ≤ (t382.size : Int) then (if (t382.extract 0 ((a0_3.size : Int) : Int).toNat).toList = a0_3.toList then (some (t380 == a1)) else (none)) else (none)) else (none)) else (none)) else (none)) else (none)) = some r := by rw [if_pos rfl] at H; exact H
      clear H
      have H := H1
      clear H1
      by_cases c25 : t381 = a1
      ·
       rw [if_pos c25] at H
       have c25b0 : (t381 == a1) = true := beq_iff_eq.mpr c25
       have c25b1 : (t381 != a1) = false := bne_eq_false_iff_eq.mpr c25
       clear c25
       by_cases c26 : t379 = a0_0
       ·
        rw [if_pos c26] at H
        have c26b0 : (t379 == a0_0) = true := beq_iff_eq.mpr c26
        have c26b1 : (t379 != a0_0) = false := bne_eq_false_iff_eq.mpr c26
        clear c26
        by_cases c27 : (t382.size : Int) > (a0_3.size : Int)
        ·
         rw [if_pos c27] at H
         have c27b0 : decide ((a0_3.size : Int) < (t382.size : Int)) = true := decide_eq_true c27
         have c27b1 : decide (a0_3.size < t382.size) = true := decide_eq_true (Int.ofNat_lt.mp c27)
         clear c27
         by_cases c28 : 0 ≤ (a0_3.size : Int)
         ·
          rw [if_pos c28] at H
          have c28b0 := eq_true c28
          have c28b1 : decide (0 ≤ (a0_3.size : Int)) = true := decide_eq_true c28
          clear c28
          by_cases c29 : (a0_3.size : Int) ≤ (t382.size : Int)
          ·
           rw [if_pos c29] at H
           have c29b0 := eq_true c29
           have c29b1 : decide ((a0_3.size : Int) ≤ (t382.size : Int)) = true := decide_eq_true c29
           clear c29
           by_cases c30 : (t382.extract 0 ((a0_3.size : Int) : Int).toNat).toList = a0_3.toList
           ·
            rw [if_pos c30] at H
            have c30b0 : ((t382.extract 0 ((a0_3.size : Int) : Int).toNat).toList == a0_3.toList) = true := beq_iff_eq.mpr c30
            try (have c30b8 := c30b0; simp only [Int.toNat_natCast] at c30b8)
            have c30b1 : ((t382.extract 0 ((a0_3.size : Int) : Int).toNat).toList != a0_3.toList) = false := bne_eq_false_iff_eq.mpr c30
            clear c30
            obtain rfl := Option.some.inj H
            have hcz31_0 : wc.cell? ⟨gb376, 0, none⟩ = some (.int .i64 a0_0) := (bc BK376.out 0).trans rfl
            have hcz31_1 : wc.cell? ⟨gb376, 1, none⟩ = some (.int .i64 a0_1) := (bc BK376.out 1).trans rfl
            have hcz31_2 : wc.cell? ⟨gb376, 2, none⟩ = some (.int .i64 a0_2) := (bc BK376.out 2).trans rfl
            have hcz31_3 : wc.cell? ⟨gb376, 3, none⟩ = some (.string a0_3) := (bc BK376.out 3).trans rfl
            have hfz31_0 := bf BK376.out 0
            have hfz31_1 := bf BK376.out 1
            have hfz31_2 := bf BK376.out 2
            have hfz31_3 := bf BK376.out 3
            try go_wp2_with (first | ((with_reducible refine gate_callee (f := 10) rfl ?_); refine goesL_ (some 33) rfl rfl Try.func10 (by kernel_rfl) rfl #[.agg #[.int .i64 a0_0, .int .i64 a0_1, .int .i64 a0_2, .string a0_3], .int .i64 a1, .agg #[.int .i64 8, .int .i64 7, .slice none 0 0, .string (⟨#[]⟩ : ByteArray)]] rfl (by (try simp only [List.map_toArray, List.map_cons, List.map_nil]); first | done | rfl | (simp only [List.length_drop, List.length_take]; rfl)) ?_; (refine (buf_Put.calls kj2 a0_0 a0_1 a0_2 a0_3 a1 8 7 _ _ ([] : List Int) (⟨#[]⟩ : ByteArray) t379 t380 t381 t382 true _ ?side1 ?side2 A22.out).mono ?_); (case side1 => exact Kd.C_nil _ _); (case side2 => exact Nat.le_refl _); rintro e w32 ⟨rfl, hb⟩; refine ⟨_, rfl, ?_⟩; have n0_ := Am (blk_below (g := gb376) (o := .cells #[.int .i64 a0_0, .int .i64 a0_1, .int .i64 a0_2, .string a0_3] 23 (0, 0)) (by (with_reducible repeat (first | refine bn ?_ _ | refine bd ?_ | refine ba ?_ _)); exact BK376.out) hb); have n1_ := Am (below_step (by repeat (first | (with_reducible first | exact HB.out | apply bl | apply pN | apply b1 | refine bs ?_ GE376.out) | exact HB.out | exact HBo.out)) hb); clear BK376; clear HB; have BK376 := n0_; have HB := n1_; clear n0_ n1_; (try clear hb); (try clear hb2); (try clear hk); (try clear hi)) | ((with_reducible refine gate_dst (N := 5) rfl ?_); (try (refine gate_guard (by rfl) ?_; dsimp only)); refine box_event ?hg (N := 5) ?hd (cs := #[.int .i64 0, .int .i64 0, .int .i64 0, .string (⟨#[]⟩ : ByteArray)]) (t := 23) ?hr ?_; (case hd => rfl); (case hg => rfl); (case hr => first | (go_simp; done) | (go_simp; rfl)); intro gb384 hg w33 hbox hb; have n0_ := Am (blk_below (g := gb376) (o := .cells #[.int .i64 a0_0, .int .i64 a0_1, .int .i64 a0_2, .string a0_3] 23 (0, 0)) (by (with_reducible repeat (first | refine bn ?_ _ | refine bd ?_ | refine ba ?_ _)); exact BK376.out) hb); have n1_ := Am (below_step (by repeat (first | (with_reducible first | exact HB.out | apply bl | apply pN | apply b1 | refine bs ?_ GE376.out) | exact HB.out | exact HBo.out)) hb); have n2_ := Am (hbox); have n3_ := Am ((by rw [hg]; exact (below_size (by repeat (first | (with_reducible first | exact HB.out | apply bl | apply pN | apply b1 | refine bs ?_ GE376.out) | exact HB.out | exact HBo.out))) : w.heap.size ≤ gb384)); have n4_ := Am ((by rw [hg]; exact (below_size (by repeat (first | (with_reducible first | exact HB.out | apply bl | apply pN | apply b1 | refine bs ?_ GE376.out) | exact HB.out | exact HBo.out))) : w.heap.size ≤ gb384)); have n5_ := Am ((by rw [hg]; exact Nat.ne_of_lt (blk_lt (g := gb376) (o := .cells #[.int .i64 a0_0, .int .i64 a0_1, .int .i64 a0_2, .string a0_3] 23 (0, 0)) (by (with_reducible repeat (first | refine bn ?_ _ | refine bd ?_ | refine ba ?_ _)); exact BK376.out)) : gb376 ≠ gb384)); have n6_ := Am ((by rw [hg]; exact Nat.ne_of_gt (blk_lt (g := gb376) (o := .cells #[.int .i64 a0_0, .int .i64 a0_1, .int .i64 a0_2, .string a0_3] 23 (0, 0)) (by (with_reducible repeat (first | refine bn ?_ _ | refine bd ?_ | refine ba ?_ _)); exact BK376.out)) : gb384 ≠ gb376)); clear BK376; clear HB; have BK376 := n0_; have HB := n1_; have BK384 := n2_; have GW384 := n3_; have GE384 := n4_; have NB376_384 := n5_; have NB384_376 := n6_; clear n0_ n1_ n2_ n3_ n4_ n5_ n6_; clear hb hbox hg; have hnb34 := NB384_376.out; have hnc34 := NB376_384.out; have hcz35_0 : w33.cell? ⟨gb384, 0, none⟩ = some (.int .i64 0) := (bc BK384.out 0).trans rfl; have hcz35_1 : w33.cell? ⟨gb384, 1, none⟩ = some (.int .i64 0) := (bc BK384.out 1).trans rfl; have hcz35_2 : w33.cell? ⟨gb384, 2, none⟩ = some (.int .i64 0) := (bc BK384.out 2).trans rfl; have hcz35_3 : w33.cell? ⟨gb384, 3, none⟩ = some (.string (⟨#[]⟩ : ByteArray)) := (bc BK384.out 3).trans rfl; have hfz35_0 := bf BK384.out 0; have hfz35_1 := bf BK384.out 1; have hfz35_2 := bf BK384.out 2; have hfz35_3 := bf BK384.out 3; have hcz36_0 : w33.cell? ⟨gb376, 0, none⟩ = some (.int .i64 a0_0) := (bc BK376.out 0).trans rfl; have hcz36_1 : w33.cell? ⟨gb376, 1, none⟩ = some (.int .i64 a0_1) := (bc BK376.out 1).trans rfl; have hcz36_2 : w33.cell? ⟨gb376, 2, none⟩ = some (.int .i64 a0_2) := (bc BK376.out 2).trans rfl; have hcz36_3 : w33.cell? ⟨gb376, 3, none⟩ = some (.string a0_3) := (bc BK376.out 3).trans rfl; have hfz36_0 := bf BK376.out 0; have hfz36_1 := bf BK376.out 1; have hfz36_2 := bf BK376.out 2; have hfz36_3 := bf BK376.out 3))
            have n0_ : Aside0 (((((w33.setCell ⟨gb384, 0, none⟩ (.int .i64 t379)).setCell ⟨gb384, 1, none⟩ (.int .i64 t380)).setCell ⟨gb384, 2, none⟩ (.int .i64 t381)).setCell ⟨gb384, 3, none⟩ (.string t382)).heap[gb376]? = some (.cells #[.int .i64 a0_0, .int .i64 a0_1, .int .i64 a0_2, .string a0_3] 23 (0, 0))) := ⟨by (with_reducible repeat (first | refine bn ?_ _ | refine bd ?_ | refine ba ?_ _)); refine blk_far ?_ NB376_384.out _; (with_reducible repeat (first | refine bn ?_ _ | refine bd ?_ | refine ba ?_ _)); refine blk_far ?_ NB376_384.out _; (with_reducible repeat (first | refine bn ?_ _ | refine bd ?_ | refine ba ?_ _)); refine blk_far ?_ NB376_384.out _; (with_reducible repeat (first | refine bn ?_ _ | refine bd ?_ | refine ba ?_ _)); refine blk_far ?_ NB376_384.out _; (with_reducible repeat (first | refine bn ?_ _ | refine bd ?_ | refine ba ?_ _)); exact BK376.out⟩
            have n1_ : Aside0 (((((w33.setCell ⟨gb384, 0, none⟩ (.int .i64 t379)).setCell ⟨gb384, 1, none⟩ (.int .i64 t380)).setCell ⟨gb384, 2, none⟩ (.int .i64 t381)).setCell ⟨gb384, 3, none⟩ (.string t382)).heap[gb384]? = some (.cells #[.int .i64 t379, .int .i64 t380, .int .i64 t381, .string t382] 23 (0, 0))) := ⟨by (with_reducible repeat (first | refine bn ?_ _ | refine bd ?_ | refine ba ?_ _)); refine blk_put (cs := #[.int .i64 t379, .int .i64 t380, .int .i64 t381, .string (⟨#[]⟩ : ByteArray)]) ?_ 3 _ rfl; (with_reducible repeat (first | refine bn ?_ _ | refine bd ?_ | refine ba ?_ _)); refine blk_put (cs := #[.int .i64 t379, .int .i64 t380, .int .i64 0, .string (⟨#[]⟩ : ByteArray)]) ?_ 2 _ rfl; (with_reducible repeat (first | refine bn ?_ _ | refine bd ?_ | refine ba ?_ _)); refine blk_put (cs := #[.int .i64 t379, .int .i64 0, .int .i64 0, .string (⟨#[]⟩ : ByteArray)]) ?_ 1 _ rfl; (with_reducible repeat (first | refine bn ?_ _ | refine bd ?_ | refine ba ?_ _)); refine blk_put (cs := #[.int .i64 0, .int .i64 0, .int .i64 0, .string (⟨#[]⟩ : ByteArray)]) ?_ 0 _ rfl; (with_reducible repeat (first | refine bn ?_ _ | refine bd ?_ | refine ba ?_ _)); exact BK384.out⟩
            have n2_ : Aside0 (Below w.heap.size w ((((w33.setCell ⟨gb384, 0, none⟩ (.int .i64 t379)).setCell ⟨gb384, 1, none⟩ (.int .i64 t380)).setCell ⟨gb384, 2, none⟩ (.int .i64 t381)).setCell ⟨gb384, 3, none⟩ (.string t382))) := ⟨by repeat (first | (with_reducible first | exact HB.out | apply bl | apply pN | apply b1 | refine bs ?_ GE376.out | refine bs ?_ GE384.out) | exact HB.out | exact HBo.out)⟩
            (try clear BK376)
            (try clear BK384)
            (try clear HB)
            generalize ((((w33.setCell ⟨gb384, 0, none⟩ (.int .i64 t379)).setCell ⟨gb384, 1, none⟩ (.int .i64 t380)).setCell ⟨gb384, 2, none⟩ (.int .i64 t381)).setCell ⟨gb384, 3, none⟩ (.string t382)) = w37 at n0_ n1_ n2_ ⊢
            have BK376 := n0_
            have BK384 := n1_
            have HB := n2_
            clear n0_ n1_ n2_
            have n0_ := Am (bd BK376.out)
            have n1_ := Am (bd BK384.out)
            have n2_ := Am (b1 HB.out)
            clear BK376
            clear BK384
            clear HB
            have BK376 := n0_
            have BK384 := n1_
            have HB := n2_
            clear n0_ n1_ n2_
            refine start_ (n := 58) (S := fun w' => w'.cell? ⟨gb384, 0, none⟩ = some (.int .i64 t379) ∧ w'.cell? ⟨gb384, 1, none⟩ = some (.int .i64 t380) ∧ w'.cell? ⟨gb384, 2, none⟩ = some (.int .i64 t381) ∧ w'.cell? ⟨gb384, 3, none⟩ = some (.string t382) ∧ w'.cell? ⟨gb376, 0, none⟩ = some (.int .i64 a0_0) ∧ w'.cell? ⟨gb376, 1, none⟩ = some (.int .i64 a0_1) ∧ w'.cell? ⟨gb376, 2, none⟩ = some (.int .i64 a0_2) ∧ w'.cell? ⟨gb376, 3, none⟩ = some (.string a0_3)) (ds := []) q18_0 (by kernel_rfl) rfl rfl ⟨(bc BK384.out 0).trans rfl, (bc BK384.out 1).trans rfl, (bc BK384.out 2).trans rfl, (bc BK384.out 3).trans rfl, (bc BK376.out 0).trans rfl, (bc BK376.out 1).trans rfl, (bc BK376.out 2).trans rfl, (bc BK376.out 3).trans rfl⟩ (fun hHeld => ?_); refine with_tabW shuttlecocklaw19_BufLater.tab6 shuttlecocklaw19_BufLater.bits6 (fun HT_ HW_ => ?_)
            generalize w37.drew = w38 at BK376 BK384 HB hHeld ⊢
            refine Own.pr_ 0 (some 52) q18_1 HT_ (h := ?_)
            refine Own.pr_ 1 (some 53) q18_2 HT_ (h := ?_)
            refine Own.pr_ 2 (some 54) q18_3 HT_ (h := ?_)
            refine Own.pr_ 4 (some 56) q18_4 HT_ (h := ?_)
            refine Own.tk_ 3 (some 55) q18_5 HT_ HW_ hHeld (hy := by rintro w' ⟨s0, s1, s2, s3, s4, s5, s6, s7⟩; go_simp; with_reducible rfl) (h := ?_)
            refine Own.pr_ 5 (some 57) q18_6 HT_ (h := ?_)
            refine Own.pr_ 6 (some 58) q18_7 HT_ (h := ?_)
            refine Own.pr_ 7 (some 59) q18_8 HT_ (h := ?_)
            refine Own.pr_ 8 (some 60) q18_9 HT_ (h := ?_)
            refine Own.pr_ 10 (some 62) q18_10 HT_ (h := ?_)
            refine Own.tk_ 9 (some 61) q18_11 HT_ HW_ hHeld (hy := by rintro w' ⟨s0, s1, s2, s3, s4, s5, s6, s7⟩; go_simp; with_reducible rfl) (h := ?_)
            refine Own.tk_ 11 (some 63) q18_12 HT_ HW_ hHeld (hy := by rintro w' ⟨s0, s1, s2, s3, s4, s5, s6, s7⟩; go_simp; with_reducible rfl) (h := ?_)
            refine Own.pr_ 12 (some 64) q18_13 HT_ (h := ?_)
            refine Own.pr_ 13 (some 65) q18_14 HT_ (h := ?_)
            refine Own.pr_ 14 (some 66) q18_15 HT_ (h := ?_)
            refine Own.pr_ 15 (some 67) q18_16 HT_ (h := ?_)
            refine Own.pr_ 18 (some 70) q18_17 HT_ (h := ?_)
            refine Own.tk_ 16 (some 68) q18_18 HT_ HW_ hHeld (hy := by rintro w' ⟨s0, s1, s2, s3, s4, s5, s6, s7⟩; go_simp; with_reducible rfl) (h := ?_)
            refine Own.pr_ 17 (some 69) q18_19 HT_ (h := ?_)
            refine Own.tk_ 19 (some 71) q18_20 HT_ HW_ hHeld (hy := by rintro w' ⟨s0, s1, s2, s3, s4, s5, s6, s7⟩; go_simp; with_reducible rfl) (h := ?_)
            refine Own.pr_ 20 (some 72) q18_21 HT_ (h := ?_)
            refine Own.pr_ 21 (some 73) q18_22 HT_ (h := ?_)
            refine Own.pr_ 22 (some 74) q18_23 HT_ (h := ?_)
            refine Own.pr_ 23 (some 75) q18_24 HT_ (h := ?_)
            refine Own.pr_ 24 (some 76) q18_25 HT_ (h := ?_)
            refine Own.pr_ 26 (some 78) q18_26 HT_ (h := ?_)
            refine Own.pr_ 30 (some 82) q18_27 HT_ (h := ?_)
            refine Own.tk_ 25 (some 77) q18_28 HT_ HW_ hHeld (hy := by rintro w' ⟨s0, s1, s2, s3, s4, s5, s6, s7⟩; go_simp; with_reducible rfl) (h := ?_)
            refine Own.tk_ 27 (some 79) q18_29 HT_ HW_ hHeld (hy := by rintro w' ⟨s0, s1, s2, s3, s4, s5, s6, s7⟩; go_simp; with_reducible rfl) (h := ?_)
            refine Own.pr_ 28 (some 80) q18_30 HT_ (h := ?_)
            refine Own.pr_ 29 (some 81) q18_31 HT_ (h := ?_)
            refine Own.tk_ 31 (some 83) q18_32 HT_ HW_ hHeld (hy := by rintro w' ⟨s0, s1, s2, s3, s4, s5, s6, s7⟩; go_simp; with_reducible rfl) (h := ?_)
            refine Own.pr_ 32 (some 84) q18_33 HT_ (h := ?_)
            refine Own.pr_ 33 (some 85) q18_34 HT_ (h := ?_)
            refine Own.pr_ 34 (some 86) q18_35 HT_ (h := ?_)
            refine Own.pr_ 35 (some 87) q18_36 HT_ (h := ?_)
            refine Own.tk_ 36 (some 88) q18_37 HT_ HW_ hHeld (hy := by rintro w' ⟨s0, s1, s2, s3, s4, s5, s6, s7⟩; go_simp; with_reducible rfl) (h := ?_)
            refine Own.pr_ 37 (some 89) q18_38 HT_ (h := ?_)
            refine Own.pr_ 38 (some 90) q18_39 HT_ (h := ?_)
            refine Own.skips_ HT_.out [39, 40, 41, 42, 43] [some 91, some 92, some 93, some 94, some 95] 14 19 _ q18_40 _ ?_ _ rfl (by kernel_rfl) (fun _ _ _ _ h => h) (by kernel_rfl) ?_ ?_
            rotate_left
            ·
             simp only [Own.putU, Act.put, sI, sZ, sS]
             rfl
            refine Own.pr_ 44 (some 96) q18_41 HT_ (h := ?_)
            refine Own.pr_ 45 (some 97) q18_42 HT_ (h := ?_)
            refine Own.pr_ 46 (some 98) q18_43 HT_ (h := ?_)
            refine Own.tk_ 47 (some 99) q18_44 HT_ HW_ hHeld (hy := by rintro w' ⟨s0, s1, s2, s3, s4, s5, s6, s7⟩; go_simp; with_reducible rfl) (h := ?_)
            refine Own.pr_ 48 (some 100) q18_45 HT_ (h := ?_)
            refine Own.pr_ 49 (some 101) q18_46 HT_ (h := ?_)
            refine Own.pr_ 50 (some 102) q18_47 HT_ (h := ?_)
            refine Own.pr_ 52 (some 104) q18_48 HT_ (h := ?_)
            refine Own.tk_ 51 (some 103) q18_49 HT_ HW_ hHeld (hy := by rintro w' ⟨s0, s1, s2, s3, s4, s5, s6, s7⟩; go_simp; with_reducible rfl) (h := ?_)
            refine Own.pr_ 53 (some 105) q18_50 HT_ (h := ?_)
            refine Own.pr_ 54 (some 106) q18_51 HT_ (h := ?_)
            refine Own.pr_ 55 (some 107) q18_52 HT_ (h := ?_)
            refine Own.pr_ 56 (some 108) q18_53 HT_ (h := ?_)
            refine Own.pr_ 57 (some 4) q18_54 HT_ (h := ?_)
            refine done_ (done_of HT_.out (by kernel_rfl)) ?_
            try go_wp2
            go_ret
            exact ⟨by first | rfl | (simp [errW_none, errW_some] <;> rfl) | (simp [*, errW_none, errW_some] <;> rfl) | (simp [Aid.ne_nil, Aid.eq_nil, errW_none, errW_some]; done), by repeat (first | (with_reducible first | exact HB.out | apply bl | apply pN | apply b1 | refine bs ?_ GE376.out | refine bs ?_ GE384.out) | exact HB.out | exact HBo.out)⟩
           ·
            rw [if_neg c30] at H
            have c30b0 : ((t382.extract 0 ((a0_3.size : Int) : Int).toNat).toList == a0_3.toList) = false := beq_eq_false_iff_ne.mpr c30
            try (have c30b8 := c30b0; simp only [Int.toNat_natCast] at c30b8)
            have c30b1 : ((t382.extract 0 ((a0_3.size : Int) : Int).toNat).toList != a0_3.toList) = true := bne_iff_ne.mpr c30
            exact absurd H (by simp)
          ·
           rw [if_neg c29] at H
           exact absurd H (by simp)
         ·
          rw [if_neg c28] at H
          exact absurd H (by simp)
        ·
         rw [if_neg c27] at H
         have c27b0 : decide ((a0_3.size : Int) < (t382.size : Int)) = false := decide_eq_false c27
         have c27b1 : decide (a0_3.size < t382.size) = false := decide_eq_false (fun h => c27 (Int.ofNat_lt.mpr h))
         clear c27
         exact absurd H (by simp)
       ·
        rw [if_neg c26] at H
        have c26b0 : (t379 == a0_0) = false := beq_eq_false_iff_ne.mpr c26
        have c26b1 : (t379 != a0_0) = true := bne_iff_ne.mpr c26
        exact absurd H (by simp)
      ·
       rw [if_neg c25] at H
       have c25b0 : (t381 == a1) = false := beq_eq_false_iff_ne.mpr c25
       have c25b1 : (t381 != a1) = true := bne_iff_ne.mpr c25
       exact absurd H (by simp)
     ·
      replace c24 := Bool.eq_false_iff.mpr c24
      subst c24
      have H1 : (none) = some r := by rw [if_neg (show ¬ (false = true) by decide)] at H; exact H
      clear H
      have H := H1
      clear H1
      exact absurd H (by simp)
    ·
     rw [if_neg c23] at H
     have c23b0 : (a0_3.toList == ([] : List UInt8)) = false := beq_eq_false_iff_ne.mpr c23
     try have c23b9 : (a0_3.toList).isEmpty = false := (by rw [List.isEmpty_eq_false_iff]; exact c23)
     have c23b1 : (a0_3.toList != ([] : List UInt8)) = true := bne_iff_ne.mpr c23
     by_cases c39 : a1 < a0_2
     ·
      rw [if_pos c39] at H
      have c39b0 : decide (a1 < a0_2) = true := decide_eq_true c39
      clear c39
      by_cases c40 : t383 = true
      ·
       subst c40
       have H1 : (none) = some r := by rw [if_pos rfl] at H; exact H
       clear H
       have H := H1
       clear H1
       exact absurd H (by simp)
      ·
       replace c40 := Bool.eq_false_iff.mpr c40
       subst c40
       have H1 : (some (t379 == 0 && (t380 == 0 && (t381 == 0 && (t382.toList == ([] : List UInt8)))))) = some r := by rw [if_neg (show ¬ (false = true) by decide)] at H; exact H
       clear H
       have H := H1
       clear H1
       obtain rfl := Option.some.inj H
       have hcz41_0 : wc.cell? ⟨gb376, 0, none⟩ = some (.int .i64 a0_0) := (bc BK376.out 0).trans rfl
       have hcz41_1 : wc.cell? ⟨gb376, 1, none⟩ = some (.int .i64 a0_1) := (bc BK376.out 1).trans rfl
       have hcz41_2 : wc.cell? ⟨gb376, 2, none⟩ = some (.int .i64 a0_2) := (bc BK376.out 2).trans rfl
       have hcz41_3 : wc.cell? ⟨gb376, 3, none⟩ = some (.string a0_3) := (bc BK376.out 3).trans rfl
       have hfz41_0 := bf BK376.out 0
       have hfz41_1 := bf BK376.out 1
       have hfz41_2 := bf BK376.out 2
       have hfz41_3 := bf BK376.out 3
       go_wp2_with (first | ((with_reducible refine gate_callee (f := 10) rfl ?_); refine goesL_ (some 33) rfl rfl Try.func10 (by kernel_rfl) rfl #[.agg #[.int .i64 a0_0, .int .i64 a0_1, .int .i64 a0_2, .string a0_3], .int .i64 a1, .agg #[.int .i64 8, .int .i64 7, .slice none 0 0, .string (⟨#[]⟩ : ByteArray)]] rfl (by (try simp only [List.map_toArray, List.map_cons, List.map_nil]); first | done | rfl | (simp only [List.length_drop, List.length_take]; rfl)) ?_; (refine (buf_Put.calls kj2 a0_0 a0_1 a0_2 a0_3 a1 8 7 _ _ ([] : List Int) (⟨#[]⟩ : ByteArray) t379 t380 t381 t382 false _ ?side1 ?side2 A22.out).mono ?_); (case side1 => exact Kd.C_nil _ _); (case side2 => exact Nat.le_refl _); rintro e w42 ⟨rfl, hb⟩; refine ⟨_, rfl, ?_⟩; have n0_ := Am (blk_below (g := gb376) (o := .cells #[.int .i64 a0_0, .int .i64 a0_1, .int .i64 a0_2, .string a0_3] 23 (0, 0)) (by (with_reducible repeat (first | refine bn ?_ _ | refine bd ?_ | refine ba ?_ _)); exact BK376.out) hb); have n1_ := Am (below_step (by repeat (first | (with_reducible first | exact HB.out | apply bl | apply pN | apply b1 | refine bs ?_ GE376.out) | exact HB.out | exact HBo.out)) hb); clear BK376; clear HB; have BK376 := n0_; have HB := n1_; clear n0_ n1_; (try clear hb); (try clear hb2); (try clear hk); (try clear hi)) | ((with_reducible refine gate_dst (N := 5) rfl ?_); (try (refine gate_guard (by rfl) ?_; dsimp only)); refine box_event ?hg (N := 5) ?hd (cs := #[.int .i64 0, .int .i64 0, .int .i64 0, .string (⟨#[]⟩ : ByteArray)]) (t := 23) ?hr ?_; (case hd => rfl); (case hg => rfl); (case hr => first | (go_simp; done) | (go_simp; rfl)); intro gb384 hg w43 hbox hb; have n0_ := Am (blk_below (g := gb376) (o := .cells #[.int .i64 a0_0, .int .i64 a0_1, .int .i64 a0_2, .string a0_3] 23 (0, 0)) (by (with_reducible repeat (first | refine bn ?_ _ | refine bd ?_ | refine ba ?_ _)); exact BK376.out) hb); have n1_ := Am (below_step (by repeat (first | (with_reducible first | exact HB.out | apply bl | apply pN | apply b1 | refine bs ?_ GE376.out) | exact HB.out | exact HBo.out)) hb); have n2_ := Am (hbox); have n3_ := Am ((by rw [hg]; exact (below_size (by repeat (first | (with_reducible first | exact HB.out | apply bl | apply pN | apply b1 | refine bs ?_ GE376.out) | exact HB.out | exact HBo.out))) : w.heap.size ≤ gb384)); have n4_ := Am ((by rw [hg]; exact (below_size (by repeat (first | (with_reducible first | exact HB.out | apply bl | apply pN | apply b1 | refine bs ?_ GE376.out) | exact HB.out | exact HBo.out))) : w.heap.size ≤ gb384)); have n5_ := Am ((by rw [hg]; exact Nat.ne_of_lt (blk_lt (g := gb376) (o := .cells #[.int .i64 a0_0, .int .i64 a0_1, .int .i64 a0_2, .string a0_3] 23 (0, 0)) (by (with_reducible repeat (first | refine bn ?_ _ | refine bd ?_ | refine ba ?_ _)); exact BK376.out)) : gb376 ≠ gb384)); have n6_ := Am ((by rw [hg]; exact Nat.ne_of_gt (blk_lt (g := gb376) (o := .cells #[.int .i64 a0_0, .int .i64 a0_1, .int .i64 a0_2, .string a0_3] 23 (0, 0)) (by (with_reducible repeat (first | refine bn ?_ _ | refine bd ?_ | refine ba ?_ _)); exact BK376.out)) : gb384 ≠ gb376)); clear BK376; clear HB; have BK376 := n0_; have HB := n1_; have BK384 := n2_; have GW384 := n3_; have GE384 := n4_; have NB376_384 := n5_; have NB384_376 := n6_; clear n0_ n1_ n2_ n3_ n4_ n5_ n6_; clear hb hbox hg; have hnb44 := NB384_376.out; have hnc44 := NB376_384.out; have hcz45_0 : w43.cell? ⟨gb384, 0, none⟩ = some (.int .i64 0) := (bc BK384.out 0).trans rfl; have hcz45_1 : w43.cell? ⟨gb384, 1, none⟩ = some (.int .i64 0) := (bc BK384.out 1).trans rfl; have hcz45_2 : w43.cell? ⟨gb384, 2, none⟩ = some (.int .i64 0) := (bc BK384.out 2).trans rfl; have hcz45_3 : w43.cell? ⟨gb384, 3, none⟩ = some (.string (⟨#[]⟩ : ByteArray)) := (bc BK384.out 3).trans rfl; have hfz45_0 := bf BK384.out 0; have hfz45_1 := bf BK384.out 1; have hfz45_2 := bf BK384.out 2; have hfz45_3 := bf BK384.out 3; have hcz46_0 : w43.cell? ⟨gb376, 0, none⟩ = some (.int .i64 a0_0) := (bc BK376.out 0).trans rfl; have hcz46_1 : w43.cell? ⟨gb376, 1, none⟩ = some (.int .i64 a0_1) := (bc BK376.out 1).trans rfl; have hcz46_2 : w43.cell? ⟨gb376, 2, none⟩ = some (.int .i64 a0_2) := (bc BK376.out 2).trans rfl; have hcz46_3 : w43.cell? ⟨gb376, 3, none⟩ = some (.string a0_3) := (bc BK376.out 3).trans rfl; have hfz46_0 := bf BK376.out 0; have hfz46_1 := bf BK376.out 1; have hfz46_2 := bf BK376.out 2; have hfz46_3 := bf BK376.out 3))
       go_ret
       exact ⟨by first | rfl | (simp [errW_none, errW_some] <;> rfl) | (simp [*, errW_none, errW_some] <;> rfl) | (simp [Aid.ne_nil, Aid.eq_nil, errW_none, errW_some]; done), by repeat (first | (with_reducible first | exact HB.out | apply bl | apply pN | apply b1 | refine bs ?_ GE376.out | refine bs ?_ GE384.out) | exact HB.out | exact HBo.out)⟩
     ·
      rw [if_neg c39] at H
      have c39b0 : decide (a1 < a0_2) = false := decide_eq_false c39
      clear c39
      by_cases c47 : t383 = true
      ·
       subst c47
       have H1 : (if t381 = a1 then (if t379 = a0_0 then (if (t382.size : Int) > (a0_3.size : Int) then (if 0 ≤ (a0_3.size : Int) then (if (a0_3.size : Int) ≤ (t382.size : Int) then (if (t382.extract 0 ((a0_3.size : Int) : Int).toNat).toList = a0_3.toList then (if t380 = a0_1 then (some true) else (none)) else (none)) else (none)) else (none)) else (none)) else (none)) else (none)) = some r := by rw [if_pos rfl] at H; exact H
       clear H
       have H := H1
       clear H1
       by_cases c48 : t381 = a1
       ·
        rw [if_pos c48] at H
        have c48b0 : (t381 == a1) = true := beq_iff_eq.mpr c48
        have c48b1 : (t381 != a1) = false := bne_eq_false_iff_eq.mpr c48
        clear c48
        by_cases c49 : t379 = a0_0
        ·
         rw [if_pos c49] at H
         have c49b0 : (t379 == a0_0) = true := beq_iff_eq.mpr c49
         have c49b1 : (t379 != a0_0) = false := bne_eq_false_iff_eq.mpr c49
         clear c49
         by_cases c50 : (t382.size : Int) > (a0_3.size : Int)
         ·
          rw [if_pos c50] at H
          have c50b0 : decide ((a0_3.size : Int) < (t382.size : Int)) = true := decide_eq_true c50
          have c50b1 : decide (a0_3.size < t382.size) = true := decide_eq_true (Int.ofNat_lt.mp c50)
          clear c50
          by_cases c51 : 0 ≤ (a0_3.size : Int)
          ·
           rw [if_pos c51] at H
           have c51b0 := eq_true c51
           have c51b1 : decide (0 ≤ (a0_3.size : Int)) = true := decide_eq_true c51
           clear c51
           by_cases c52 : (a0_3.size : Int) ≤ (t382.size : Int)
           ·
            rw [if_pos c52] at H
            have c52b0 := eq_true c52
            have c52b1 : decide ((a0_3.size : Int) ≤ (t382.size : Int)) = true := decide_eq_true c52
            clear c52
            by_cases c53 : (t382.extract 0 ((a0_3.size : Int) : Int).toNat).toList = a0_3.toList
            ·
             rw [if_pos c53] at H
             have c53b0 : ((t382.extract 0 ((a0_3.size : Int) : Int).toNat).toList == a0_3.toList) = true := beq_iff_eq.mpr c53
             try (have c53b8 := c53b0; simp only [Int.toNat_natCast] at c53b8)
             have c53b1 : ((t382.extract 0 ((a0_3.size : Int) : Int).toNat).toList != a0_3.toList) = false := bne_eq_false_iff_eq.mpr c53
             clear c53
             by_cases c54 : t380 = a0_1
             ·
              rw [if_pos c54] at H
              have c54b0 : (t380 == a0_1) = true := beq_iff_eq.mpr c54
              have c54b1 : (t380 != a0_1) = false := bne_eq_false_iff_eq.mpr c54
              clear c54
              obtain rfl := Option.some.inj H
              have hcz55_0 : wc.cell? ⟨gb376, 0, none⟩ = some (.int .i64 a0_0) := (bc BK376.out 0).trans rfl
              have hcz55_1 : wc.cell? ⟨gb376, 1, none⟩ = some (.int .i64 a0_1) := (bc BK376.out 1).trans rfl
              have hcz55_2 : wc.cell? ⟨gb376, 2, none⟩ = some (.int .i64 a0_2) := (bc BK376.out 2).trans rfl
              have hcz55_3 : wc.cell? ⟨gb376, 3, none⟩ = some (.string a0_3) := (bc BK376.out 3).trans rfl
              have hfz55_0 := bf BK376.out 0
              have hfz55_1 := bf BK376.out 1
              have hfz55_2 := bf BK376.out 2
              have hfz55_3 := bf BK376.out 3
              try go_wp2_with (first | ((with_reducible refine gate_callee (f := 10) rfl ?_); refine goesL_ (some 33) rfl rfl Try.func10 (by kernel_rfl) rfl #[.agg #[.int .i64 a0_0, .int .i64 a0_1, .int .i64 a0_2, .string a0_3], .int .i64 a1, .agg #[.int .i64 8, .int .i64 7, .slice none 0 0, .string (⟨#[]⟩ : ByteArray)]] rfl (by (try simp only [List.map_toArray, List.map_cons, List.map_nil]); first | done | rfl | (simp only [List.length_drop, List.length_take]; rfl)) ?_; (refine (buf_Put.calls kj2 a0_0 a0_1 a0_2 a0_3 a1 8 7 _ _ ([] : List Int) (⟨#[]⟩ : ByteArray) t379 t380 t381 t382 true _ ?side1 ?side2 A22.out).mono ?_); (case side1 => exact Kd.C_nil _ _); (case side2 => exact Nat.le_refl _); rintro e w56 ⟨rfl, hb⟩; refine ⟨_, rfl, ?_⟩; have n0_ := Am (blk_below (g := gb376) (o := .cells #[.int .i64 a0_0, .int .i64 a0_1, .int .i64 a0_2, .string a0_3] 23 (0, 0)) (by (with_reducible repeat (first | refine bn ?_ _ | refine bd ?_ | refine ba ?_ _)); exact BK376.out) hb); have n1_ := Am (below_step (by repeat (first | (with_reducible first | exact HB.out | apply bl | apply pN | apply b1 | refine bs ?_ GE376.out) | exact HB.out | exact HBo.out)) hb); clear BK376; clear HB; have BK376 := n0_; have HB := n1_; clear n0_ n1_; (try clear hb); (try clear hb2); (try clear hk); (try clear hi)) | ((with_reducible refine gate_dst (N := 5) rfl ?_); (try (refine gate_guard (by rfl) ?_; dsimp only)); refine box_event ?hg (N := 5) ?hd (cs := #[.int .i64 0, .int .i64 0, .int .i64 0, .string (⟨#[]⟩ : ByteArray)]) (t := 23) ?hr ?_; (case hd => rfl); (case hg => rfl); (case hr => first | (go_simp; done) | (go_simp; rfl)); intro gb384 hg w57 hbox hb; have n0_ := Am (blk_below (g := gb376) (o := .cells #[.int .i64 a0_0, .int .i64 a0_1, .int .i64 a0_2, .string a0_3] 23 (0, 0)) (by (with_reducible repeat (first | refine bn ?_ _ | refine bd ?_ | refine ba ?_ _)); exact BK376.out) hb); have n1_ := Am (below_step (by repeat (first | (with_reducible first | exact HB.out | apply bl | apply pN | apply b1 | refine bs ?_ GE376.out) | exact HB.out | exact HBo.out)) hb); have n2_ := Am (hbox); have n3_ := Am ((by rw [hg]; exact (below_size (by repeat (first | (with_reducible first | exact HB.out | apply bl | apply pN | apply b1 | refine bs ?_ GE376.out) | exact HB.out | exact HBo.out))) : w.heap.size ≤ gb384)); have n4_ := Am ((by rw [hg]; exact (below_size (by repeat (first | (with_reducible first | exact HB.out | apply bl | apply pN | apply b1 | refine bs ?_ GE376.out) | exact HB.out | exact HBo.out))) : w.heap.size ≤ gb384)); have n5_ := Am ((by rw [hg]; exact Nat.ne_of_lt (blk_lt (g := gb376) (o := .cells #[.int .i64 a0_0, .int .i64 a0_1, .int .i64 a0_2, .string a0_3] 23 (0, 0)) (by (with_reducible repeat (first | refine bn ?_ _ | refine bd ?_ | refine ba ?_ _)); exact BK376.out)) : gb376 ≠ gb384)); have n6_ := Am ((by rw [hg]; exact Nat.ne_of_gt (blk_lt (g := gb376) (o := .cells #[.int .i64 a0_0, .int .i64 a0_1, .int .i64 a0_2, .string a0_3] 23 (0, 0)) (by (with_reducible repeat (first | refine bn ?_ _ | refine bd ?_ | refine ba ?_ _)); exact BK376.out)) : gb384 ≠ gb376)); clear BK376; clear HB; have BK376 := n0_; have HB := n1_; have BK384 := n2_; have GW384 := n3_; have GE384 := n4_; have NB376_384 := n5_; have NB384_376 := n6_; clear n0_ n1_ n2_ n3_ n4_ n5_ n6_; clear hb hbox hg; have hnb58 := NB384_376.out; have hnc58 := NB376_384.out; have hcz59_0 : w57.cell? ⟨gb384, 0, none⟩ = some (.int .i64 0) := (bc BK384.out 0).trans rfl; have hcz59_1 : w57.cell? ⟨gb384, 1, none⟩ = some (.int .i64 0) := (bc BK384.out 1).trans rfl; have hcz59_2 : w57.cell? ⟨gb384, 2, none⟩ = some (.int .i64 0) := (bc BK384.out 2).trans rfl; have hcz59_3 : w57.cell? ⟨gb384, 3, none⟩ = some (.string (⟨#[]⟩ : ByteArray)) := (bc BK384.out 3).trans rfl; have hfz59_0 := bf BK384.out 0; have hfz59_1 := bf BK384.out 1; have hfz59_2 := bf BK384.out 2; have hfz59_3 := bf BK384.out 3; have hcz60_0 : w57.cell? ⟨gb376, 0, none⟩ = some (.int .i64 a0_0) := (bc BK376.out 0).trans rfl; have hcz60_1 : w57.cell? ⟨gb376, 1, none⟩ = some (.int .i64 a0_1) := (bc BK376.out 1).trans rfl; have hcz60_2 : w57.cell? ⟨gb376, 2, none⟩ = some (.int .i64 a0_2) := (bc BK376.out 2).trans rfl; have hcz60_3 : w57.cell? ⟨gb376, 3, none⟩ = some (.string a0_3) := (bc BK376.out 3).trans rfl; have hfz60_0 := bf BK376.out 0; have hfz60_1 := bf BK376.out 1; have hfz60_2 := bf BK376.out 2; have hfz60_3 := bf BK376.out 3))
              have n0_ : Aside0 (((((w57.setCell ⟨gb384, 0, none⟩ (.int .i64 t379)).setCell ⟨gb384, 1, none⟩ (.int .i64 t380)).setCell ⟨gb384, 2, none⟩ (.int .i64 t381)).setCell ⟨gb384, 3, none⟩ (.string t382)).heap[gb376]? = some (.cells #[.int .i64 a0_0, .int .i64 a0_1, .int .i64 a0_2, .string a0_3] 23 (0, 0))) := ⟨by (with_reducible repeat (first | refine bn ?_ _ | refine bd ?_ | refine ba ?_ _)); refine blk_far ?_ NB376_384.out _; (with_reducible repeat (first | refine bn ?_ _ | refine bd ?_ | refine ba ?_ _)); refine blk_far ?_ NB376_384.out _; (with_reducible repeat (first | refine bn ?_ _ | refine bd ?_ | refine ba ?_ _)); refine blk_far ?_ NB376_384.out _; (with_reducible repeat (first | refine bn ?_ _ | refine bd ?_ | refine ba ?_ _)); refine blk_far ?_ NB376_384.out _; (with_reducible repeat (first | refine bn ?_ _ | refine bd ?_ | refine ba ?_ _)); exact BK376.out⟩
              have n1_ : Aside0 (((((w57.setCell ⟨gb384, 0, none⟩ (.int .i64 t379)).setCell ⟨gb384, 1, none⟩ (.int .i64 t380)).setCell ⟨gb384, 2, none⟩ (.int .i64 t381)).setCell ⟨gb384, 3, none⟩ (.string t382)).heap[gb384]? = some (.cells #[.int .i64 t379, .int .i64 t380, .int .i64 t381, .string t382] 23 (0, 0))) := ⟨by (with_reducible repeat (first | refine bn ?_ _ | refine bd ?_ | refine ba ?_ _)); refine blk_put (cs := #[.int .i64 t379, .int .i64 t380, .int .i64 t381, .string (⟨#[]⟩ : ByteArray)]) ?_ 3 _ rfl; (with_reducible repeat (first | refine bn ?_ _ | refine bd ?_ | refine ba ?_ _)); refine blk_put (cs := #[.int .i64 t379, .int .i64 t380, .int .i64 0, .string (⟨#[]⟩ : ByteArray)]) ?_ 2 _ rfl; (with_reducible repeat (first | refine bn ?_ _ | refine bd ?_ | refine ba ?_ _)); refine blk_put (cs := #[.int .i64 t379, .int .i64 0, .int .i64 0, .string (⟨#[]⟩ : ByteArray)]) ?_ 1 _ rfl; (with_reducible repeat (first | refine bn ?_ _ | refine bd ?_ | refine ba ?_ _)); refine blk_put (cs := #[.int .i64 0, .int .i64 0, .int .i64 0, .string (⟨#[]⟩ : ByteArray)]) ?_ 0 _ rfl; (with_reducible repeat (first | refine bn ?_ _ | refine bd ?_ | refine ba ?_ _)); exact BK384.out⟩
              have n2_ : Aside0 (Below w.heap.size w ((((w57.setCell ⟨gb384, 0, none⟩ (.int .i64 t379)).setCell ⟨gb384, 1, none⟩ (.int .i64 t380)).setCell ⟨gb384, 2, none⟩ (.int .i64 t381)).setCell ⟨gb384, 3, none⟩ (.string t382))) := ⟨by repeat (first | (with_reducible first | exact HB.out | apply bl | apply pN | apply b1 | refine bs ?_ GE376.out | refine bs ?_ GE384.out) | exact HB.out | exact HBo.out)⟩
              (try clear BK376)
              (try clear BK384)
              (try clear HB)
              generalize ((((w57.setCell ⟨gb384, 0, none⟩ (.int .i64 t379)).setCell ⟨gb384, 1, none⟩ (.int .i64 t380)).setCell ⟨gb384, 2, none⟩ (.int .i64 t381)).setCell ⟨gb384, 3, none⟩ (.string t382)) = w61 at n0_ n1_ n2_ ⊢
              have BK376 := n0_
              have BK384 := n1_
              have HB := n2_
              clear n0_ n1_ n2_
              have n0_ := Am (bd BK376.out)
              have n1_ := Am (bd BK384.out)
              have n2_ := Am (b1 HB.out)
              clear BK376
              clear BK384
              clear HB
              have BK376 := n0_
              have BK384 := n1_
              have HB := n2_
              clear n0_ n1_ n2_
              refine start_ (n := 58) (S := fun w' => w'.cell? ⟨gb384, 0, none⟩ = some (.int .i64 t379) ∧ w'.cell? ⟨gb384, 1, none⟩ = some (.int .i64 t380) ∧ w'.cell? ⟨gb384, 2, none⟩ = some (.int .i64 t381) ∧ w'.cell? ⟨gb384, 3, none⟩ = some (.string t382) ∧ w'.cell? ⟨gb376, 0, none⟩ = some (.int .i64 a0_0) ∧ w'.cell? ⟨gb376, 1, none⟩ = some (.int .i64 a0_1) ∧ w'.cell? ⟨gb376, 2, none⟩ = some (.int .i64 a0_2) ∧ w'.cell? ⟨gb376, 3, none⟩ = some (.string a0_3)) (ds := []) q18_0 (by kernel_rfl) rfl rfl ⟨(bc BK384.out 0).trans rfl, (bc BK384.out 1).trans rfl, (bc BK384.out 2).trans rfl, (bc BK384.out 3).trans rfl, (bc BK376.out 0).trans rfl, (bc BK376.out 1).trans rfl, (bc BK376.out 2).trans rfl, (bc BK376.out 3).trans rfl⟩ (fun hHeld => ?_); refine with_tabW shuttlecocklaw19_BufLater.tab6 shuttlecocklaw19_BufLater.bits6 (fun HT_ HW_ => ?_)
              generalize w61.drew = w62 at BK376 BK384 HB hHeld ⊢
              refine Own.pr_ 0 (some 52) q18_1 HT_ (h := ?_)
              refine Own.pr_ 1 (some 53) q18_2 HT_ (h := ?_)
              refine Own.pr_ 2 (some 54) q18_3 HT_ (h := ?_)
              refine Own.pr_ 4 (some 56) q18_4 HT_ (h := ?_)
              refine Own.tk_ 3 (some 55) q18_5 HT_ HW_ hHeld (hy := by rintro w' ⟨s0, s1, s2, s3, s4, s5, s6, s7⟩; go_simp; with_reducible rfl) (h := ?_)
              refine Own.pr_ 5 (some 57) q18_6 HT_ (h := ?_)
              refine Own.pr_ 6 (some 58) q18_7 HT_ (h := ?_)
              refine Own.pr_ 7 (some 59) q18_8 HT_ (h := ?_)
              refine Own.pr_ 8 (some 60) q18_9 HT_ (h := ?_)
              refine Own.pr_ 10 (some 62) q18_10 HT_ (h := ?_)
              refine Own.tk_ 9 (some 61) q18_11 HT_ HW_ hHeld (hy := by rintro w' ⟨s0, s1, s2, s3, s4, s5, s6, s7⟩; go_simp; with_reducible rfl) (h := ?_)
              refine Own.tk_ 11 (some 63) q18_12 HT_ HW_ hHeld (hy := by rintro w' ⟨s0, s1, s2, s3, s4, s5, s6, s7⟩; go_simp; with_reducible rfl) (h := ?_)
              refine Own.pr_ 12 (some 64) q18_13 HT_ (h := ?_)
              refine Own.pr_ 13 (some 65) q18_14 HT_ (h := ?_)
              refine Own.pr_ 14 (some 66) q18_15 HT_ (h := ?_)
              refine Own.pr_ 15 (some 67) q18_16 HT_ (h := ?_)
              refine Own.pr_ 18 (some 70) q18_17 HT_ (h := ?_)
              refine Own.tk_ 16 (some 68) q18_18 HT_ HW_ hHeld (hy := by rintro w' ⟨s0, s1, s2, s3, s4, s5, s6, s7⟩; go_simp; with_reducible rfl) (h := ?_)
              refine Own.pr_ 17 (some 69) q18_19 HT_ (h := ?_)
              refine Own.tk_ 19 (some 71) q18_20 HT_ HW_ hHeld (hy := by rintro w' ⟨s0, s1, s2, s3, s4, s5, s6, s7⟩; go_simp; with_reducible rfl) (h := ?_)
              refine Own.pr_ 20 (some 72) q18_21 HT_ (h := ?_)
              refine Own.pr_ 21 (some 73) q18_22 HT_ (h := ?_)
              refine Own.pr_ 22 (some 74) q18_23 HT_ (h := ?_)
              refine Own.pr_ 23 (some 75) q18_24 HT_ (h := ?_)
              refine Own.pr_ 24 (some 76) q18_25 HT_ (h := ?_)
              refine Own.pr_ 26 (some 78) q18_26 HT_ (h := ?_)
              refine Own.pr_ 30 (some 82) q18_27 HT_ (h := ?_)
              refine Own.tk_ 25 (some 77) q18_28 HT_ HW_ hHeld (hy := by rintro w' ⟨s0, s1, s2, s3, s4, s5, s6, s7⟩; go_simp; with_reducible rfl) (h := ?_)
              refine Own.tk_ 27 (some 79) q18_29 HT_ HW_ hHeld (hy := by rintro w' ⟨s0, s1, s2, s3, s4, s5, s6, s7⟩; go_simp; with_reducible rfl) (h := ?_)
              refine Own.pr_ 28 (some 80) q18_30 HT_ (h := ?_)
              refine Own.pr_ 29 (some 81) q18_31 HT_ (h := ?_)
              refine Own.tk_ 31 (some 83) q18_32 HT_ HW_ hHeld (hy := by rintro w' ⟨s0, s1, s2, s3, s4, s5, s6, s7⟩; go_simp; with_reducible rfl) (h := ?_)
              refine Own.pr_ 32 (some 84) q18_33 HT_ (h := ?_)
              refine Own.pr_ 33 (some 85) q18_34 HT_ (h := ?_)
              refine Own.pr_ 34 (some 86) q18_35 HT_ (h := ?_)
              refine Own.pr_ 35 (some 87) q18_36 HT_ (h := ?_)
              refine Own.tk_ 36 (some 88) q18_37 HT_ HW_ hHeld (hy := by rintro w' ⟨s0, s1, s2, s3, s4, s5, s6, s7⟩; go_simp; with_reducible rfl) (h := ?_)
              refine Own.pr_ 37 (some 89) q18_38 HT_ (h := ?_)
              refine Own.pr_ 38 (some 90) q18_39 HT_ (h := ?_)
              refine Own.pr_ 39 (some 91) q18_55 HT_ (h := ?_)
              refine Own.pr_ 41 (some 93) q18_56 HT_ (h := ?_)
              refine Own.tk_ 40 (some 92) q18_57 HT_ HW_ hHeld (hy := by rintro w' ⟨s0, s1, s2, s3, s4, s5, s6, s7⟩; go_simp; with_reducible rfl) (h := ?_)
              refine Own.tk_ 42 (some 94) q18_58 HT_ HW_ hHeld (hy := by rintro w' ⟨s0, s1, s2, s3, s4, s5, s6, s7⟩; go_simp; with_reducible rfl) (h := ?_)
              refine Own.pr_ 43 (some 95) q18_40 HT_ (h := ?_)
              refine Own.pr_ 44 (some 96) q18_41 HT_ (h := ?_)
              refine Own.pr_ 45 (some 97) q18_42 HT_ (h := ?_)
              refine Own.skips_ HT_.out [46, 47, 48, 49, 50, 51, 52, 53, 54] [some 98, some 99, some 100, some 101, some 102, some 103, some 104, some 105, some 106] 3 12 _ q18_51 _ ?_ _ rfl (by kernel_rfl) (fun _ _ _ _ h => h) (by kernel_rfl) ?_ ?_
              rotate_left
              ·
               simp only [Own.putU, Act.put, sI, sZ, sS]
               rfl
              refine Own.pr_ 55 (some 107) q18_52 HT_ (h := ?_)
              refine Own.pr_ 56 (some 108) q18_53 HT_ (h := ?_)
              refine Own.pr_ 57 (some 4) q18_54 HT_ (h := ?_)
              refine done_ (done_of HT_.out (by kernel_rfl)) ?_
              try go_wp2
              go_ret
              exact ⟨by first | rfl | (simp [errW_none, errW_some] <;> rfl) | (simp [*, errW_none, errW_some] <;> rfl) | (simp [Aid.ne_nil, Aid.eq_nil, errW_none, errW_some]; done), by repeat (first | (with_reducible first | exact HB.out | apply bl | apply pN | apply b1 | refine bs ?_ GE376.out | refine bs ?_ GE384.out) | exact HB.out | exact HBo.out)⟩
             ·
              rw [if_neg c54] at H
              have c54b0 : (t380 == a0_1) = false := beq_eq_false_iff_ne.mpr c54
              have c54b1 : (t380 != a0_1) = true := bne_iff_ne.mpr c54
              exact absurd H (by simp)
            ·
             rw [if_neg c53] at H
             have c53b0 : ((t382.extract 0 ((a0_3.size : Int) : Int).toNat).toList == a0_3.toList) = false := beq_eq_false_iff_ne.mpr c53
             try (have c53b8 := c53b0; simp only [Int.toNat_natCast] at c53b8)
             have c53b1 : ((t382.extract 0 ((a0_3.size : Int) : Int).toNat).toList != a0_3.toList) = true := bne_iff_ne.mpr c53
             exact absurd H (by simp)
           ·
            rw [if_neg c52] at H
            exact absurd H (by simp)
          ·
           rw [if_neg c51] at H
           exact absurd H (by simp)
         ·
          rw [if_neg c50] at H
          have c50b0 : decide ((a0_3.size : Int) < (t382.size : Int)) = false := decide_eq_false c50
          have c50b1 : decide (a0_3.size < t382.size) = false := decide_eq_false (fun h => c50 (Int.ofNat_lt.mpr h))
          clear c50
          exact absurd H (by simp)
        ·
         rw [if_neg c49] at H
         have c49b0 : (t379 == a0_0) = false := beq_eq_false_iff_ne.mpr c49
         have c49b1 : (t379 != a0_0) = true := bne_iff_ne.mpr c49
         exact absurd H (by simp)
       ·
        rw [if_neg c48] at H
        have c48b0 : (t381 == a1) = false := beq_eq_false_iff_ne.mpr c48
        have c48b1 : (t381 != a1) = true := bne_iff_ne.mpr c48
        exact absurd H (by simp)
      ·
       replace c47 := Bool.eq_false_iff.mpr c47
       subst c47
       have H1 : (none) = some r := by rw [if_neg (show ¬ (false = true) by decide)] at H; exact H
       clear H
       have H := H1
       clear H1
       exact absurd H (by simp)

/-- THE ONE PURE STATEMENT of shuttlecocklaw19_BufLater (own row). -/
def shuttlecocklaw19_BufLater.Pure : Prop := ∀ (y0 : S23) (y1 : Int), ((Lit.int .i64 y0.f0).wf = true ∧ (Lit.int .i64 y0.f1).wf = true ∧ (Lit.int .i64 y0.f2).wf = true ∧ y0.f3.size ≤ 140737488351232) → (Lit.int .i64 y1).wf = true → ∃ k, shuttlecocklaw19_BufLater.f k y0.f0 y0.f1 y0.f2 y0.f3 y1 = some true

end Go.Proofs.Ytgpnkgmghnmmjaa.Q
