-- printed by a program of this session (NOTES: hprint); not the kit's print
-- minified3
-- minified2
-- minified
-- halved
import Derived.Test.YtlmmlmmbnfcogaaAl
import Derived.Test.YtlmmlmmbnfcogaaQx0
import Derived.Test.YtlmmlmmbnfcogaaQx6
import Derived.Test.YtlmmlmmbnfcogaaQx7
import Derived.Test.YtlmmlmmbnfcogaaQx8
namespace Go.Proofs.Ytlmmlmmbnfcogaa.Q
open Go.RowKit Go.Proofs.YtlmmlmmbnfcogaaW.PrintWords Go.Proofs.YtlmmlmmbnfcogaaW.PrintLast Go.Proofs.YtlmmlmmbnfcogaaW.PrintMore
attribute [local go_sem] max2_int min2_int max_two min_two max_three min_three max_four min_four   -- for this text's walks alone
set_option linter.unusedVariables false
set_option linter.unusedSimpArgs false

def q9_0 : Array Bool := let o := true; let z := false; #[z,z,z,z,z,z,z,z,z,z,z,z,z,z,z,z,z,z,z,z,z,z,z,z,z,z,z,z,z,z,z,z,z,z,z,z,z,z,z,z,z,z,z,z,z,z,z,z,z,z,z,z,z,z,z]
def q9_1 : Array Bool := let o := true; let z := false; #[o,z,z,z,z,z,z,z,z,z,z,z,z,z,z,z,z,z,z,z,z,z,z,z,z,z,z,z,z,z,z,z,z,z,z,z,z,z,z,z,z,z,z,z,z,z,z,z,z,z,z,z,z,z,z]
def q9_2 : Array Bool := let o := true; let z := false; #[o,o,z,z,z,z,z,z,z,z,z,z,z,z,z,z,z,z,z,z,z,z,z,z,z,z,z,z,z,z,z,z,z,z,z,z,z,z,z,z,z,z,z,z,z,z,z,z,z,z,z,z,z,z,z]
def q9_3 : Array Bool := let o := true; let z := false; #[o,o,o,z,z,z,z,z,z,z,z,z,z,z,z,z,z,z,z,z,z,z,z,z,z,z,z,z,z,z,z,z,z,z,z,z,z,z,z,z,z,z,z,z,z,z,z,z,z,z,z,z,z,z,z]
def q9_4 : Array Bool := let o := true; let z := false; #[o,o,o,o,z,z,z,z,z,z,z,z,z,z,z,z,z,z,z,z,z,z,z,z,z,z,z,z,z,z,z,z,z,z,z,z,z,z,z,z,z,z,z,z,z,z,z,z,z,z,z,z,z,z,z]
def q9_5 : Array Bool := let o := true; let z := false; #[o,o,o,o,o,z,z,z,z,z,z,z,z,z,z,z,z,z,z,z,z,z,z,z,z,z,z,z,z,z,z,z,z,z,z,z,z,z,z,z,z,z,z,z,z,z,z,z,z,z,z,z,z,z,z]
def q9_6 : Array Bool := let o := true; let z := false; #[o,o,o,o,o,o,z,z,z,z,z,z,z,z,z,z,z,z,z,z,z,z,z,z,z,z,z,z,z,z,z,z,z,z,z,z,z,z,z,z,z,z,z,z,z,z,z,z,z,z,z,z,z,z,z]
def q9_7 : Array Bool := let o := true; let z := false; #[o,o,o,o,o,o,o,z,z,z,z,z,z,z,z,z,z,z,z,z,z,z,z,z,z,z,z,z,z,z,z,z,z,z,z,z,z,z,z,z,z,z,z,z,z,z,z,z,z,z,z,z,z,z,z]
def q9_8 : Array Bool := let o := true; let z := false; #[o,o,o,o,o,o,o,o,z,z,z,z,z,z,z,z,z,z,z,z,z,z,z,z,z,z,z,z,z,z,z,z,z,z,z,z,z,z,z,z,z,z,z,z,z,z,z,z,z,z,z,z,z,z,z]
def q9_9 : Array Bool := let o := true; let z := false; #[o,o,o,o,o,o,o,o,o,z,z,z,z,z,z,z,z,z,z,z,z,z,z,z,z,z,z,z,z,z,z,z,z,z,z,z,z,z,z,z,z,z,z,z,z,z,z,z,z,z,z,z,z,z,z]
def q9_10 : Array Bool := let o := true; let z := false; #[o,o,o,o,o,o,o,o,o,o,z,z,z,z,z,z,z,z,z,z,z,z,z,z,z,z,z,z,z,z,z,z,z,z,z,z,z,z,z,z,z,z,z,z,z,z,z,z,z,z,z,z,z,z,z]
def q9_11 : Array Bool := let o := true; let z := false; #[o,o,o,o,o,o,o,o,o,o,o,z,z,z,z,z,z,z,z,z,z,z,z,z,z,z,z,z,z,z,z,z,z,z,z,z,z,z,z,z,z,z,z,z,z,z,z,z,z,z,z,z,z,z,z]
def q9_12 : Array Bool := let o := true; let z := false; #[o,o,o,o,o,o,o,o,o,o,o,o,z,z,z,z,z,z,z,z,z,z,z,z,z,z,z,z,z,z,z,z,z,z,z,z,z,z,z,z,z,z,z,z,z,z,z,z,z,z,z,z,z,z,z]
def q9_13 : Array Bool := let o := true; let z := false; #[o,o,o,o,o,o,o,o,o,o,o,o,o,z,z,z,z,z,z,z,z,z,z,z,z,z,z,z,z,z,z,z,z,z,z,z,z,z,z,z,z,z,z,z,z,z,z,z,z,z,z,z,z,z,z]
def q9_14 : Array Bool := let o := true; let z := false; #[o,o,o,o,o,o,o,o,o,o,o,o,o,o,z,z,z,z,z,z,z,z,z,z,z,z,z,z,z,z,z,z,z,z,z,z,z,z,z,z,z,z,z,z,z,z,z,z,z,z,z,z,z,z,z]
def q9_15 : Array Bool := let o := true; let z := false; #[o,o,o,o,o,o,o,o,o,o,o,o,o,o,o,z,z,z,z,z,z,z,z,z,z,z,z,z,z,z,z,z,z,z,z,z,z,z,z,z,z,z,z,z,z,z,z,z,z,z,z,z,z,z,z]
def q9_16 : Array Bool := let o := true; let z := false; #[o,o,o,o,o,o,o,o,o,o,o,o,o,o,o,o,z,z,z,z,z,z,z,z,z,z,z,z,z,z,z,z,z,z,z,z,z,z,z,z,z,z,z,z,z,z,z,z,z,z,z,z,z,z,z]
def q9_17 : Array Bool := let o := true; let z := false; #[o,o,o,o,o,o,o,o,o,o,o,o,o,o,o,o,o,z,z,z,z,z,z,z,z,z,z,z,z,z,z,z,z,z,z,z,z,z,z,z,z,z,z,z,z,z,z,z,z,z,z,z,z,z,z]
def q9_18 : Array Bool := let o := true; let z := false; #[o,o,o,o,o,o,o,o,o,o,o,o,o,o,o,o,o,o,z,z,z,z,z,z,z,z,z,z,z,z,z,z,z,z,z,z,z,z,z,z,z,z,z,z,z,z,z,z,z,z,z,z,z,z,z]
def q9_19 : Array Bool := let o := true; let z := false; #[o,o,o,o,o,o,o,o,o,o,o,o,o,o,o,o,o,o,o,z,z,z,z,z,z,z,z,z,z,z,z,z,z,z,z,z,z,z,z,z,z,z,z,z,z,z,z,z,z,z,z,z,z,z,z]
def q9_20 : Array Bool := let o := true; let z := false; #[o,o,o,o,o,o,o,o,o,o,o,o,o,o,o,o,o,o,o,o,z,z,z,z,z,z,z,z,z,z,z,z,z,z,z,z,z,z,z,z,z,z,z,z,z,z,z,z,z,z,z,z,z,z,z]
def q9_21 : Array Bool := let o := true; let z := false; #[o,o,o,o,o,o,o,o,o,o,o,o,o,o,o,o,o,o,o,o,o,z,z,z,z,z,z,z,z,z,z,z,z,z,z,z,z,z,z,z,z,z,z,z,z,z,z,z,z,z,z,z,z,z,z]
def q9_22 : Array Bool := let o := true; let z := false; #[o,o,o,o,o,o,o,o,o,o,o,o,o,o,o,o,o,o,o,o,o,o,z,z,z,z,z,z,z,z,z,z,z,z,z,z,z,z,z,z,z,z,z,z,z,z,z,z,z,z,z,z,z,z,z]
def q9_23 : Array Bool := let o := true; let z := false; #[o,o,o,o,o,o,o,o,o,o,o,o,o,o,o,o,o,o,o,o,o,o,o,z,z,z,z,z,z,z,z,z,z,z,z,z,z,z,z,z,z,z,z,z,z,z,z,z,z,z,z,z,z,z,z]
def q9_24 : Array Bool := let o := true; let z := false; #[o,o,o,o,o,o,o,o,o,o,o,o,o,o,o,o,o,o,o,o,o,o,o,o,z,z,z,z,z,z,z,z,z,z,z,z,z,z,z,z,z,z,z,z,z,z,z,z,z,z,z,z,z,z,z]
def q9_25 : Array Bool := let o := true; let z := false; #[o,o,o,o,o,o,o,o,o,o,o,o,o,o,o,o,o,o,o,o,o,o,o,o,o,z,z,z,z,z,z,z,z,z,z,z,z,z,z,z,z,z,z,z,z,z,z,z,z,z,z,z,z,z,z]
def q9_26 : Array Bool := let o := true; let z := false; #[o,o,o,o,o,o,o,o,o,o,o,o,o,o,o,o,o,o,o,o,o,o,o,o,o,o,z,z,z,z,z,z,z,z,z,z,z,z,z,z,z,z,z,z,z,z,z,z,z,z,z,z,z,z,z]
def q9_27 : Array Bool := let o := true; let z := false; #[o,o,o,o,o,o,o,o,o,o,o,o,o,o,o,o,o,o,o,o,o,o,o,o,o,o,o,z,z,z,z,z,z,z,z,z,z,z,z,z,z,z,z,z,z,z,z,z,z,z,z,z,z,z,z]
def q9_28 : Array Bool := let o := true; let z := false; #[o,o,o,o,o,o,o,o,o,o,o,o,o,o,o,o,o,o,o,o,o,o,o,o,o,o,o,o,z,z,z,z,z,z,z,z,z,z,z,z,z,z,z,z,z,z,z,z,z,z,z,z,z,z,z]
def q9_29 : Array Bool := let o := true; let z := false; #[o,o,o,o,o,o,o,o,o,o,o,o,o,o,o,o,o,o,o,o,o,o,o,o,o,o,o,o,o,z,z,z,z,z,z,z,z,z,z,z,z,z,z,z,z,z,z,z,z,z,z,z,z,z,z]
def q9_30 : Array Bool := let o := true; let z := false; #[o,o,o,o,o,o,o,o,o,o,o,o,o,o,o,o,o,o,o,o,o,o,o,o,o,o,o,o,o,o,z,z,z,z,z,z,z,z,z,z,z,z,z,z,z,z,z,z,z,z,z,z,z,z,z]
def q9_31 : Array Bool := let o := true; let z := false; #[o,o,o,o,o,o,o,o,o,o,o,o,o,o,o,o,o,o,o,o,o,o,o,o,o,o,o,o,o,o,o,z,z,z,z,z,z,z,z,z,z,z,z,z,z,z,z,z,z,z,z,z,z,z,z]
def q9_32 : Array Bool := let o := true; let z := false; #[o,o,o,o,o,o,o,o,o,o,o,o,o,o,o,o,o,o,o,o,o,o,o,o,o,o,o,o,o,o,o,o,z,z,z,z,z,z,z,z,z,z,z,z,z,z,z,z,z,z,z,z,z,z,z]
def q9_33 : Array Bool := let o := true; let z := false; #[o,o,o,o,o,o,o,o,o,o,o,o,o,o,o,o,o,o,o,o,o,o,o,o,o,o,o,o,o,o,o,o,o,z,z,z,z,z,z,z,z,z,z,z,z,z,z,z,z,z,z,z,z,z,z]
def q9_34 : Array Bool := let o := true; let z := false; #[o,o,o,o,o,o,o,o,o,o,o,o,o,o,o,o,o,o,o,o,o,o,o,o,o,o,o,o,o,o,o,o,o,o,z,z,z,z,z,z,z,z,z,z,z,z,z,z,z,z,z,z,z,z,z]
def q9_35 : Array Bool := let o := true; let z := false; #[o,o,o,o,o,o,o,o,o,o,o,o,o,o,o,o,o,o,o,o,o,o,o,o,o,o,o,o,o,o,o,o,o,o,o,z,z,z,z,z,z,z,z,z,z,z,z,z,z,z,z,z,z,z,z]
def q9_36 : Array Bool := let o := true; let z := false; #[o,o,o,o,o,o,o,o,o,o,o,o,o,o,o,o,o,o,o,o,o,o,o,o,o,o,o,o,o,o,o,o,o,o,o,o,z,z,z,z,z,z,z,z,z,z,z,z,z,z,z,z,z,z,z]
def q9_37 : Array Bool := let o := true; let z := false; #[o,o,o,o,o,o,o,o,o,o,o,o,o,o,o,o,o,o,o,o,o,o,o,o,o,o,o,o,o,o,o,o,o,o,o,o,o,z,z,z,z,z,z,z,z,z,z,z,z,z,z,z,z,z,z]
def q9_38 : Array Bool := let o := true; let z := false; #[o,o,o,o,o,o,o,o,o,o,o,o,o,o,o,o,o,o,o,o,o,o,o,o,o,o,o,o,o,o,o,o,o,o,o,o,o,o,z,z,z,z,z,z,z,z,z,z,z,z,z,z,z,z,z]
def q9_39 : Array Bool := let o := true; let z := false; #[o,o,o,o,o,o,o,o,o,o,o,o,o,o,o,o,o,o,o,o,o,o,o,o,o,o,o,o,o,o,o,o,o,o,o,o,o,o,o,z,z,z,z,z,z,z,z,z,z,z,z,z,z,z,z]
def q9_40 : Array Bool := let o := true; let z := false; #[o,o,o,o,o,o,o,o,o,o,o,o,o,o,o,o,o,o,o,o,o,o,o,o,o,o,o,o,o,o,o,o,o,o,o,o,o,o,o,o,z,z,z,z,z,z,z,z,z,z,z,z,z,z,z]
def q9_41 : Array Bool := let o := true; let z := false; #[o,o,o,o,o,o,o,o,o,o,o,o,o,o,o,o,o,o,o,o,o,o,o,o,o,o,o,o,o,o,o,o,o,o,o,o,o,o,o,o,o,z,z,z,z,z,z,z,z,z,z,z,z,z,z]
def q9_42 : Array Bool := let o := true; let z := false; #[o,o,o,o,o,o,o,o,o,o,o,o,o,o,o,o,o,o,o,o,o,o,o,o,o,o,o,o,o,o,o,o,o,o,o,o,o,o,o,o,o,o,z,z,z,z,z,z,z,z,z,z,z,z,z]
def q9_43 : Array Bool := let o := true; let z := false; #[o,o,o,o,o,o,o,o,o,o,o,o,o,o,o,o,o,o,o,o,o,o,o,o,o,o,o,o,o,o,o,o,o,o,o,o,o,o,o,o,o,o,o,z,z,z,z,z,z,z,z,z,z,z,z]
def q9_44 : Array Bool := let o := true; let z := false; #[o,o,o,o,o,o,o,o,o,o,o,o,o,o,o,o,o,o,o,o,o,o,o,o,o,o,o,o,o,o,o,o,o,o,o,o,o,o,o,o,o,o,o,o,z,z,z,z,z,z,z,z,z,z,z]
def q9_45 : Array Bool := let o := true; let z := false; #[o,o,o,o,o,o,o,o,o,o,o,o,o,o,o,o,o,o,o,o,o,o,o,o,o,o,o,o,o,o,o,o,o,o,o,o,o,o,o,o,o,o,o,o,o,z,z,z,z,z,z,z,z,z,z]
def q9_46 : Array Bool := let o := true; let z := false; #[o,o,o,o,o,o,o,o,o,o,o,o,o,o,o,o,o,o,o,o,o,o,o,o,o,o,o,o,o,o,o,o,o,o,o,o,o,o,o,o,o,o,o,o,o,o,z,z,z,z,z,z,z,z,z]
def q9_47 : Array Bool := let o := true; let z := false; #[o,o,o,o,o,o,o,o,o,o,o,o,o,o,o,o,o,o,o,o,o,o,o,o,o,o,o,o,o,o,o,o,o,o,o,o,o,o,o,o,o,o,o,o,o,o,o,z,z,z,z,z,z,z,z]
def q9_48 : Array Bool := let o := true; let z := false; #[o,o,o,o,o,o,o,o,o,o,o,o,o,o,o,o,o,o,o,o,o,o,o,o,o,o,o,o,o,o,o,o,o,o,o,o,o,o,o,o,o,o,o,o,o,o,o,o,z,z,z,z,z,z,z]
def q9_49 : Array Bool := let o := true; let z := false; #[o,o,o,o,o,o,o,o,o,o,o,o,o,o,o,o,o,o,o,o,o,o,o,o,o,o,o,o,o,o,o,o,o,o,o,o,o,o,o,o,o,o,o,o,o,o,o,o,o,o,o,z,z,z,z]
def q9_50 : Array Bool := let o := true; let z := false; #[o,o,o,o,o,o,o,o,o,o,o,o,o,o,o,o,o,o,o,o,o,o,o,o,o,o,o,o,o,o,o,o,o,o,o,o,o,o,o,o,o,o,o,o,o,o,o,o,o,o,z,z,z,z,z]
def q9_51 : Array Bool := let o := true; let z := false; #[o,o,o,o,o,o,o,o,o,o,o,o,o,o,o,o,o,o,o,o,o,o,o,o,o,o,o,o,o,o,o,o,o,o,o,o,o,o,o,o,o,o,o,o,o,o,o,o,o,z,o,z,z,z,z]
def q9_52 : Array Bool := let o := true; let z := false; #[o,o,o,o,o,o,o,o,o,o,o,o,o,o,o,o,o,o,o,o,o,o,o,o,o,o,o,o,o,o,o,o,o,o,o,o,o,o,o,o,o,o,o,o,o,o,o,o,z,o,o,z,z,z,z]
def q9_53 : Array Bool := let o := true; let z := false; #[o,o,o,o,o,o,o,o,o,o,o,o,o,o,o,o,o,o,o,o,o,o,o,o,o,o,o,o,o,o,o,o,o,o,o,o,o,o,o,o,o,o,o,o,o,o,o,o,o,z,z,z,z,z,z]
def q9_54 : Array Bool := let o := true; let z := false; #[o,o,o,o,o,o,o,o,o,o,o,o,o,o,o,o,o,o,o,o,o,o,o,o,o,o,o,o,o,o,o,o,o,o,o,o,o,o,o,o,o,o,o,o,o,o,o,o,z,o,z,z,z,z,z]
def q9_55 : Array Bool := let o := true; let z := false; #[o,o,o,o,o,o,o,o,o,o,o,o,o,o,o,o,o,o,o,o,o,o,o,o,o,o,o,o,o,o,o,o,o,o,o,o,o,o,o,o,o,o,o,o,o,o,o,o,z,z,o,z,z,z,z]
def q9_56 : Array Bool := let o := true; let z := false; #[o,o,o,o,o,o,o,o,o,o,o,o,o,o,o,o,o,o,o,o,o,o,o,o,o,o,o,o,o,o,o,o,o,o,o,o,o,o,o,o,o,o,o,o,o,o,o,o,o,o,o,o,z,z,z]
def q9_57 : Array Bool := let o := true; let z := false; #[o,o,o,o,o,o,o,o,o,o,o,o,o,o,o,o,o,o,o,o,o,o,o,o,o,o,o,o,o,o,o,o,o,o,o,o,o,o,o,o,o,o,o,o,o,o,o,o,o,o,o,o,o,z,z]
def q9_58 : Array Bool := let o := true; let z := false; #[o,o,o,o,o,o,o,o,o,o,o,o,o,o,o,o,o,o,o,o,o,o,o,o,o,o,o,o,o,o,o,o,o,o,o,o,o,o,o,o,o,o,o,o,o,o,o,o,o,o,o,o,o,o,z]
def q9_59 : Array Bool := let o := true; let z := false; #[o,o,o,o,o,o,o,o,o,o,o,o,o,o,o,o,o,o,o,o,o,o,o,o,o,o,o,o,o,o,o,o,o,o,o,o,o,o,o,o,o,o,o,o,o,o,o,o,o,o,o,o,o,o,o]
/-! ### shuttlecocklaw07_fixed: function 8, by hand -/
def shuttlecocklaw07_fixed.T6 : Bool × List (List Nat × List Nat) := (true, [([], []), ([0], [0]), ([1], [1]), ([2], [2]), ([2, 2], [2]), ([3, 4, 4, 2], [2, 3, 4]), ([2, 5], [2, 5]), ([6, 5], [6]), ([7], [7]), ([7], [7]), ([9, 7], [7, 9]), ([8, 10, 7], [7, 8, 10]), ([7, 11], [7, 11]), ([12, 7], [12]), ([13], [13]), ([14, 13], [13, 14]), ([13, 15], [13, 15]), ([16, 13], [16]), ([17], [17]), ([17, 17], [17]), ([18, 19, 19, 17], [17, 18, 19]), ([17, 20], [17, 20]), ([21, 20], [21]), ([22], [22]), ([23, 22], [22, 23]), ([22, 24], [22, 24]), ([25, 22], [25]), ([26], [26]), ([27, 26], [26, 27]), ([26, 28], [26, 28]), ([29, 26], [29]), ([30], [30]), ([31, 30], [30, 31]), ([30, 32], [30, 32]), ([33, 30], [33]), ([34], [34]), ([35, 34], [34, 35]), ([34, 36], [34, 36]), ([37, 34], [37]), ([38], [38]), ([39, 38], [38, 39]), ([38, 40], [38, 40]), ([41, 38], [41]), ([42], [42]), ([43, 42, 42], [42, 43]), ([44, 42], [42, 44]), ([42, 45], [42, 45]), ([46, 44], [46]), ([47, 47], [47]), ([47], [47]), ([47], [47]), ([48, 49, 50, 48, 47], [47, 48, 49, 50]), ([51, 47], [47, 51]), ([47, 52], [47, 52]), ([53, 51, 0, 1, 2, 3, 4, 5, 6, 7, 8, 9, 10, 11, 12, 13, 14, 15, 16, 17, 18, 19, 20, 21, 22, 23, 24, 25, 26, 27, 28, 29, 30, 31, 32, 33, 34, 35, 36, 37, 38, 39, 40, 41, 42, 43, 44, 45, 46, 47, 48, 49, 50, 51, 52, 53], [53])])
def shuttlecocklaw07_fixed.B6 : List Nat := [0, 1, 3, 7, 7, 31, 63, 127, 255, 255, 767, 2047, 4095, 8191, 16383, 32767, 65535, 131071, 262143, 262143, 1048575, 2097151, 4194303, 8388607, 16777215, 33554431, 67108863, 134217727, 268435455, 536870911, 1073741823, 2147483647, 4294967295, 8589934591, 17179869183, 34359738367, 68719476735, 137438953471, 274877906943, 549755813887, 1099511627775, 2199023255551, 4398046511103, 8796093022207, 17592186044415, 35184372088831, 70368744177663, 140737488355327, 281474976710655, 281474976710655, 281474976710655, 2251799813685247, 4503599627370495, 9007199254740991, 18014398509481983]
theorem shuttlecocklaw07_fixed.tab6 : rtab .any (opsOf Try.f8 6) = shuttlecocklaw07_fixed.T6 := by kernel_rfl
theorem shuttlecocklaw07_fixed.bits6 : waitsOk shuttlecocklaw07_fixed.T6.2 shuttlecocklaw07_fixed.B6 = true := by kernel_rfl
def fxS : List ByteArray := [(⟨#[97]⟩ : ByteArray), (⟨#[98]⟩ : ByteArray)]
def fxM : List (List S70) := [[(⟨2, 3⟩ : S70)]]
def shuttlecocklaw07_fixed.f (k : Nat) : Option Bool :=
 (table_Encode.f k fxS fxM).bind fun s => (table_Decode.f k s).bind fun t => (table_Order.f k fxS fxM [2, 1] [1]).bind fun o => (table_Decode.f k o).bind fun u => (table_Decode.f k (⟨#[1, 2, 1, 97, 0]⟩ : ByteArray)).bind fun v => (table_Decode.f k (⟨#[0, 0, 120]⟩ : ByteArray)).bind fun x =>
 (shuttlecockref06_Same.f k t.1 t.2.1 fxS fxM).bind fun b1 => (shuttlecockref06_Same.f k u.1 u.2.1 fxS fxM).bind fun b2 => (table_Encode.f k [] []).bind fun z => (table_Order.f k fxS fxM [1, 1] [1]).bind fun y =>
 if ((s.toList == ([2, 1, 1, 97, 2, 1, 98, 1, 1, 1, 2, 3] : List UInt8)) && b1 && (t.2.2.1 == (s.size : Int)) && (t.2.2.2 == 0) && b2 && (u.2.2.2 == 0) && (v.2.2.1 == 2) && (v.2.2.2 == 70) && (x.2.2.1 == 3) && (x.2.2.2 == 70) && (z.toList == ([0, 0] : List UInt8)) && (y.toList == ([] : List UInt8))) = true then some true else none
theorem shuttlecocklaw07_fixed.mono : ∀ k, LeO (shuttlecocklaw07_fixed.f k) (shuttlecocklaw07_fixed.f (k + 1)) := fun k => by
 unfold shuttlecocklaw07_fixed.f
 exact LeO.bind (table_Encode.mono _ _ k) (fun _ => LeO.bind (table_Decode.mono _ k) (fun _ => LeO.bind (table_Order.mono _ _ _ _ k) (fun _ => LeO.bind (table_Decode.mono _ k) (fun _ => LeO.bind (table_Decode.mono _ k) (fun _ => LeO.bind (table_Decode.mono _ k) (fun _ => LeO.bind (shuttlecockref06_Same.mono _ _ _ _ k) (fun _ => LeO.bind (shuttlecockref06_Same.mono _ _ _ _ k) (fun _ => LeO.bind (table_Encode.mono _ _ k) (fun _ => LeO.bind (table_Order.mono _ _ _ _ k) (fun _ => LeO.refl _))))))))))
/-- A table's rows, as they are read. -/
structure FT (w : World) (A : Option Addr) (c : Nat) (l : List ByteArray) (A' : Option Addr) (c' : Nat) (m : List (List S70)) : Prop where
 a : Kd.C Kd.string w A l.length l
 b : l.length ≤ c
 d : Kd.C (Kd.slice 70 k70) w A' m.length m
 e : m.length ≤ c'
section
variable {w w' w1 : World} {A A' : Option Addr} {c c' : Nat} {l : List ByteArray} {m : List (List S70)} {base base' : Nat} {ok ok' : Nat → Prop}
theorem FT.below (h : FT w A c l A' c' m) (hb : Below w.heap.size w w1) : FT w1 A c l A' c' m := ⟨Kd.C_below h.a hb, h.b, Kd.C_below h.d hb, h.e⟩
theorem FT.ofS (hr : Kd.R Kd.string 9 w base ok (.slice A l.length c) l) (hs : Kd.S (Kd.slice 70 k70) 42 w base' ok' (.slice A' m.length c') m) : FT w A c l A' c' m :=
 ⟨(Kd.R_reads' hr).2.2, (Kd.R_reads' hr).2.1, (Kd.S_reads' hs).2.2, (Kd.S_reads' hs).2.1⟩
theorem FT.ofN (hr : Kd.R Kd.string 9 w base ok (.slice A l.length c) l) (hs : Kd.N (Kd.slice 70 k70) 42 w base' ok' (.slice A' m.length c') m) : FT w A c l A' c' m :=
 ⟨(Kd.R_reads' hr).2.2, (Kd.R_reads' hr).2.1, (Kd.N_reads' hs).2.2, (Kd.N_reads' hs).2.1⟩
end
theorem fx_enc (k : Nat) {w : World} {A A' : Option Addr} {c c' : Nat} {s : ByteArray} (h : FT w A c fxS A' c' fxM) (hf : table_Encode.f k fxS fxM = some s) : Calls Try.prog 11 #[.agg #[.slice A 2 c, .slice A' 1 c']] w fun e w' => e = .returned (.string s) ∧ Below w.heap.size w w' := table_Encode.calls k A c fxS A' c' fxM s w h.a h.b h.d h.e hf
theorem fx_nil (k : Nat) (w : World) {s : ByteArray} (hf : table_Encode.f k [] [] = some s) : Calls Try.prog 11 #[.agg #[.slice none 0 0, .slice none 0 0]] w fun e w' => e = .returned (.string s) ∧ Below w.heap.size w w' := table_Encode.calls k none 0 [] none 0 [] s w (Kd.R_reads' (Kd.R_nil Kd.string 0 w 0 (fun _ => True))).2.2 (Nat.le_refl _) (Kd.S_reads' (Kd.S_nil (Kd.slice 70 k70) 0 w 0 (fun _ => True))).2.2 (Nat.le_refl _) hf
theorem fx_ord (k : Nat) {w : World} {A A' A1 A2 : Option Addr} {c c' : Nat} {a b d : Int} {s : ByteArray} (h : FT w A c fxS A' c' fxM) (h1 : Kd.C (Kd.int .i64) w A1 2 [a, b]) (h2 : Kd.C (Kd.int .i64) w A2 1 [d]) (hf : table_Order.f k fxS fxM [a, b] [d] = some s) : Calls Try.prog 13 #[.agg #[.slice A 2 c, .slice A' 1 c'], .slice A1 2 2, .slice A2 1 1] w fun e w' => e = .returned (.string s) ∧ Below w.heap.size w w' := table_Order.calls k A c fxS A' c' fxM A1 2 [a, b] A2 1 [d] s w h.a h.b h.d h.e h1 (Nat.le_refl _) h2 (Nat.le_refl _) hf
theorem fx_same (k : Nat) {w : World} {A A' B B' : Option Addr} {c c' d d' : Nat} {l : List ByteArray} {m : List (List S70)} {r : Bool} (h : FT w A c l A' c' m) (h2 : FT w B d fxS B' d' fxM) (hf : shuttlecockref06_Same.f k l m fxS fxM = some r) : Calls Try.prog 15 #[.agg #[.slice A l.length c, .slice A' m.length c'], .agg #[.slice B 2 d, .slice B' 1 d']] w fun e w' => e = .returned (.bool r) ∧ Below w.heap.size w w' := shuttlecockref06_Same.calls k A c l A' c' m B d fxS B' d' fxM r w h.a h.b h.d h.e h2.a h2.b h2.d h2.e hf
/-- A variable that a table is laid into. -/
def layT (w : World) (v v' : Value) : World := w.alloc (.cells #[v, v'] 25)
theorem layT_below (w : World) (v v' : Value) : Below w.heap.size w (layT w v v') := bl (Below.refl _ _) _
theorem layT_blk (w : World) (v v' : Value) : (layT w v v').heap[w.heap.size]? = some (.cells #[v, v'] 25 (0, 0)) := blk_new w _
theorem layT_rows {w : World} {A A' : Option Addr} {c c' : Nat} {l : List ByteArray} {m : List (List S70)} {base base' : Nat} {ok ok' : Nat → Prop} (hr : Kd.R Kd.string 9 w base ok (.slice A l.length c) l) (hs : Kd.S (Kd.slice 70 k70) 42 w base' ok' (.slice A' m.length c') m) (v v' : Value) : FT (layT w v v') A c l A' c' m :=
 FT.ofS (Kd.R_alloc hr _) (Kd.S_alloc hs _)
/-- Two orders, laid one behind the other. -/
def twoW (w : World) : World := (w.alloc (.cells #[.int .i64 2, .int .i64 1] 3)).alloc (.cells #[.int .i64 1] 3)
theorem two_below (w : World) : Below w.heap.size w (twoW w) := bl (bl (Below.refl _ _) _) _
theorem two_fst (w : World) : Kd.C (Kd.int .i64) (twoW w) (some ⟨w.heap.size, 0, none⟩) 2 [2, 1] := Kd.C_alloc (lit_C w [2, 1] 3 (by simp)) _
theorem two_snd (w : World) : Kd.C (Kd.int .i64) (twoW w) (some ⟨w.heap.size + 1, 0, none⟩) 1 [1] := by
 have h := lit_C (w.alloc (.cells #[.int .i64 2, .int .i64 1] 3)) [1] 3 (by simp)
 rwa [alloc_size] at h
/-- The two tables that were decoded, in their variables. -/
structure Fx (w0 w : World) (bt : Nat) (At : Option Addr) (ct : Nat) (lt : List ByteArray) (At' : Option Addr) (ct' : Nat) (mt : List (List S70)) (bu : Nat) (Au : Option Addr) (cu : Nat) (lu : List ByteArray) (Au' : Option Addr) (cu' : Nat) (mu : List (List S70)) : Prop where
 b : Below w0.heap.size w0 w
 xt : w.heap[bt]? = some (.cells #[.slice At lt.length ct, .slice At' mt.length ct'] 25 (0, 0))
 xu : w.heap[bu]? = some (.cells #[.slice Au lu.length cu, .slice Au' mu.length cu'] 25 (0, 0))
 t : FT w At ct lt At' ct' mt
 u : FT w Au cu lu Au' cu' mu
/-- What the three that come in any order have laid. -/
structure FK (w0 : World) (bt : Nat) (At : Option Addr) (ct : Nat) (lt : List ByteArray) (At' : Option Addr) (ct' : Nat) (mt : List (List S70)) (bu : Nat) (Au : Option Addr) (cu : Nat) (lu : List ByteArray) (Au' : Option Addr) (cu' : Nat) (mu : List (List S70)) (b1 b2 b3 : Bool) (va vb : Value) (ga gb : Nat) (w : World) : Prop where
 x : Fx w0 w bt At ct lt At' ct' mt bu Au cu lu Au' cu' mu
 p : b1 = true → ∃ A c A' c', va = .slice A fxS.length c ∧ vb = .slice A' fxM.length c' ∧ FT w A c fxS A' c' fxM
 q : b2 = true → Kd.C (Kd.int .i64) w (some ⟨ga, 0, none⟩) 2 [1, 1]
 r : b3 = true → Kd.C (Kd.int .i64) w (some ⟨gb, 0, none⟩) 1 [1]
section
variable {w0 w w1 : World} {bt bu : Nat} {At At' Au Au' : Option Addr} {ct ct' cu cu' : Nat} {lt lu : List ByteArray} {mt mu : List (List S70)} {b1 b2 b3 : Bool} {va vb vx vy : Value} {ga gb : Nat}
theorem Fx.below (h : Fx w0 w bt At ct lt At' ct' mt bu Au cu lu Au' cu' mu) (hb : Below w.heap.size w w1) : Fx w0 w1 bt At ct lt At' ct' mt bu Au cu lu Au' cu' mu :=
 ⟨below_step h.b hb, blk_below h.xt hb, blk_below h.xu hb, h.t.below hb, h.u.below hb⟩
theorem FK.below (h : FK w0 bt At ct lt At' ct' mt bu Au cu lu Au' cu' mu b1 b2 b3 va vb ga gb w) (hb : Below w.heap.size w w1) : FK w0 bt At ct lt At' ct' mt bu Au cu lu Au' cu' mu b1 b2 b3 va vb ga gb w1 :=
 ⟨h.x.below hb, fun e => by obtain ⟨A, c, A', c', e1, e2, h2⟩ := h.p e; exact ⟨A, c, A', c', e1, e2, h2.below hb⟩, fun e => Kd.C_below (h.q e) hb, fun e => Kd.C_below (h.r e) hb⟩
theorem FK.one (h : FK w0 bt At ct lt At' ct' mt bu Au cu lu Au' cu' mu b1 b2 b3 va vb ga gb w) {ok ok' : Nat → Prop} (h0 : Kd.R Kd.string 9 w1 w.heap.size ok vx fxS) (h1 : Kd.N (Kd.slice 70 k70) 42 w1 w.heap.size ok' vy fxM) (hb : Below w.heap.size w w1) : FK w0 bt At ct lt At' ct' mt bu Au cu lu Au' cu' mu true b2 b3 vx vy ga gb w1 := by
 obtain ⟨A, c, rfl⟩ := Kd.R_slice h0
 obtain ⟨A', c', rfl⟩ := Kd.N_slice h1
 exact ⟨h.x.below hb, fun _ => ⟨A, c, A', c', rfl, rfl, FT.ofN h0 h1⟩, fun e => Kd.C_below (h.q e) hb, fun e => Kd.C_below (h.r e) hb⟩
theorem FK.two (h : FK w0 bt At ct lt At' ct' mt bu Au cu lu Au' cu' mu b1 b2 b3 va vb ga gb w) : FK w0 bt At ct lt At' ct' mt bu Au cu lu Au' cu' mu b1 true b3 va vb w.heap.size gb (w.alloc (.cells #[.int .i64 1, .int .i64 1] 3)) :=
 { h.below (bl (Below.refl _ _) _) with q := fun _ => lit_C w [1, 1] 3 (by simp) }
theorem FK.three (h : FK w0 bt At ct lt At' ct' mt bu Au cu lu Au' cu' mu b1 b2 b3 va vb ga gb w) : FK w0 bt At ct lt At' ct' mt bu Au cu lu Au' cu' mu b1 b2 true va vb ga w.heap.size (w.alloc (.cells #[.int .i64 1] 3)) :=
 { h.below (bl (Below.refl _ _) _) with r := fun _ => lit_C w [1] 3 (by simp) }
theorem fk_ord (k : Nat) {y : ByteArray} (h : FK w0 bt At ct lt At' ct' mt bu Au cu lu Au' cu' mu true true true va vb ga gb w) (hf : table_Order.f k fxS fxM [1, 1] [1] = some y) : Calls Try.prog 13 #[.agg #[va, vb], .slice (some ⟨ga, 0, none⟩) 2 2, .slice (some ⟨gb, 0, none⟩) 1 1] w fun e w' => e = .returned (.string y) ∧ Below w.heap.size w w' := by
 obtain ⟨A, c, A', c', rfl, rfl, h2⟩ := h.p rfl
 exact fx_ord k h2 (h.q rfl) (h.r rfl) hf
end
set_option maxHeartbeats 8000000 in
set_option maxRecDepth 100000 in
theorem shuttlecocklaw07_fixed.calls (k : Nat) (r : Bool) (w : World) (h : shuttlecocklaw07_fixed.f k = some r) :
  Calls Try.prog 8 #[] w fun e w' => e = .returned (.bool r) ∧ Below w.heap.size w w' := by
 unfold shuttlecocklaw07_fixed.f at h
 obtain ⟨s, h1, h⟩ := ob h
 obtain ⟨⟨lt, mt, pt, et⟩, h2, h⟩ := ob h
 obtain ⟨o, h3, h⟩ := ob h
 obtain ⟨⟨lu, mu, pu, eu⟩, h4, h⟩ := ob h
 obtain ⟨⟨lv, mv, pv, ev⟩, h5, h⟩ := ob h
 obtain ⟨⟨lx, mx, px, ex⟩, h6, h⟩ := ob h
 obtain ⟨b1, h7, h⟩ := ob h
 obtain ⟨b2, h8, h⟩ := ob h
 obtain ⟨z, h9, h⟩ := ob h
 obtain ⟨y, h10, h⟩ := ob h
 split at h
 case isFalse => cases h
 case isTrue hc =>
 obtain rfl := Option.some.inj h
 simp only [Bool.and_eq_true] at hc h7 h8
 obtain ⟨⟨⟨⟨⟨⟨⟨⟨⟨⟨⟨c1, c2⟩, c3⟩, c4⟩, c5⟩, c6⟩, c7⟩, c8⟩, c9⟩, c10⟩, c11⟩, c12⟩ := hc
 subst c2 c5
 replace h1 := Am h1
 replace h2 := Am h2
 replace h3 := Am h3
 replace h4 := Am h4
 replace h5 := Am h5
 replace h6 := Am h6
 replace h7 := Am h7
 replace h8 := Am h8
 replace h9 := Am h9
 replace h10 := Am h10
 clear h
 go_enter Try.func8, Try.ntmps8
 go_wp2_with (first | (go_at_call 11; (with_reducible refine (fx_enc k FS1.out h1.out).mono ?_); rintro e w2 ⟨rfl, hb⟩; have HB2 := Am (below_step HB1.out hb); clear hb) | (go_at_call 9; (with_reducible refine (table_Decode.calls k s _ _ _ _ _ h2.out).mono ?_); rintro e w3 ⟨v0, v1, rfl, ho0, ho1, hb⟩; have HB3 := Am (below_step HB2.out hb); obtain ⟨A3, c3, e0⟩ := Kd.R_slice ho0; obtain ⟨B3, d3, e1⟩ := Kd.S_slice ho1; subst e0 e1; have FT3 := Am (ho0); have GT3 := Am (ho1); clear ho0 ho1 hb) | ((with_reducible refine gate_store (t := 25) (p := 2) rfl ?_); refine store_event (t := 25) (p := 2) (v := .tmp 19) (w1 := layT w3 (.slice A3 lt.length c3) (.slice B3 mt.length d3)) ?hg ?ho ?hn ?hr ?_; (case ho => rfl); (case hg => rfl); (case hn => rfl); (case hr => first | (go_simp; done) | (go_simp; rfl)); intro w4 hw; have HB4 := Am (show Below w.heap.size w w4 by rw [hw]; exact below_step HB3.out (layT_below _ _ _)); have XT4 := Am (show w4.heap[w3.heap.size]? = some (.cells #[.slice A3 lt.length c3, .slice B3 mt.length d3] 25 (0, 0)) from hw ▸ layT_blk _ _ _); have TT4 := Am (show FT w4 A3 c3 lt B3 d3 mt by rw [hw]; exact layT_rows FT3.out GT3.out _ _); clear hw) | (go_at_call 17; (with_reducible refine (shuttlecocklaw07_some.calls _ _ _ rfl).mono ?_); rintro e w5 ⟨v0, v1, rfl, ho0, ho1, hb⟩; have HB5 := Am (below_step HB4.out hb); have XT5 := Am (blk_below XT4.out hb); have TT5 := Am (TT4.out.below hb); obtain ⟨A5, c5, e0⟩ := Kd.R_slice ho0; obtain ⟨B5, d5, e1⟩ := Kd.N_slice ho1; subst e0 e1; have FS5 := Am (FT.ofN (l := fxS) (m := fxM) ho0 ho1); have FW5 : Aside0 (Calls Try.prog 13 #[.agg #[.slice A5 2 c5, .slice B5 1 d5], .slice (some ⟨w5.heap.size, 0, none⟩) 2 2, .slice (some ⟨w5.heap.size + 1, 0, none⟩) 1 1] ((w5.alloc (.cells #[.int .i64 2, .int .i64 1] 3)).alloc (.cells #[.int .i64 1] 3)) fun e w' => e = .returned (.string o) ∧ Below (twoW w5).heap.size (twoW w5) w') := ⟨fx_ord k (FS5.out.below (two_below w5)) (two_fst w5) (two_snd w5) h3.out⟩; clear ho0 ho1 hb) | (go_at_call 17; (with_reducible refine (shuttlecocklaw07_some.calls _ _ _ rfl).mono ?_); rintro e w1 ⟨v0, v1, rfl, ho0, ho1, hb⟩; have HB1 := Am hb; obtain ⟨A1, c1, e0⟩ := Kd.R_slice ho0; obtain ⟨B1, d1, e1⟩ := Kd.N_slice ho1; subst e0 e1; have FS1 := Am (FT.ofN (l := fxS) (m := fxM) ho0 ho1); clear ho0 ho1 hb) | (go_at_call 13; (with_reducible refine (FW5.out).mono ?_); rintro e w8 ⟨rfl, hb⟩; have hb8 := below_step (two_below w5) hb; have HB8 := Am (below_step HB5.out hb8); have XT8 := Am (blk_below XT5.out hb8); have TT8 := Am (TT5.out.below hb8); clear hb hb8) | (go_at_call 9; (with_reducible refine (table_Decode.calls k o _ _ _ _ _ h4.out).mono ?_); rintro e w9 ⟨v0, v1, rfl, ho0, ho1, hb⟩; have HB9 := Am (below_step HB8.out hb); have XT9 := Am (blk_below XT8.out hb); have TT9 := Am (TT8.out.below hb); obtain ⟨A9, c9, e0⟩ := Kd.R_slice ho0; obtain ⟨B9, d9, e1⟩ := Kd.S_slice ho1; subst e0 e1; have FT9 := Am (ho0); have GT9 := Am (ho1); clear ho0 ho1 hb) | ((with_reducible refine gate_store (t := 25) (p := 5) rfl ?_); refine store_event (t := 25) (p := 5) (v := .tmp 28) (w1 := layT w9 (.slice A9 lu.length c9) (.slice B9 mu.length d9)) ?hg ?ho ?hn ?hr ?_; (case ho => rfl); (case hg => rfl); (case hn => rfl); (case hr => first | (go_simp; done) | (go_simp; rfl)); intro w10 hw; have FX10 := Am (show Fx w w10 w3.heap.size A3 c3 lt B3 d3 mt w9.heap.size A9 c9 lu B9 d9 mu by rw [hw]; exact ⟨below_step HB9.out (layT_below _ _ _), blk_below XT9.out (layT_below _ _ _), layT_blk _ _ _, TT9.out.below (layT_below _ _ _), layT_rows FT9.out GT9.out _ _⟩); clear hw) | (go_at_call 9; (with_reducible refine (table_Decode.calls k _ _ _ _ _ _ h5.out).mono ?_); rintro e w11 ⟨v0, v1, rfl, ho0, ho1, hb⟩; have FX11 := Am (FX10.out.below hb); obtain ⟨A11, c11, e0⟩ := Kd.R_slice ho0; obtain ⟨B11, d11, e1⟩ := Kd.S_slice ho1; subst e0 e1; skip; clear ho0 ho1 hb) | ((with_reducible refine gate_store (t := 25) (p := 8) rfl ?_); refine store_event (t := 25) (p := 8) (v := .tmp 33) (w1 := layT w11 (.slice A11 lv.length c11) (.slice B11 mv.length d11)) ?hg ?ho ?hn ?hr ?_; (case ho => rfl); (case hg => rfl); (case hn => rfl); (case hr => first | (go_simp; done) | (go_simp; rfl)); intro w12 hw; have FX12 := Am (FX11.out.below (show Below w11.heap.size w11 w12 by rw [hw]; exact layT_below _ _ _)); clear hw) | (go_at_call 9; (with_reducible refine (table_Decode.calls k _ _ _ _ _ _ h6.out).mono ?_); rintro e w13 ⟨v0, v1, rfl, ho0, ho1, hb⟩; have FX13 := Am (FX12.out.below hb); obtain ⟨A13, c13, e0⟩ := Kd.R_slice ho0; obtain ⟨B13, d13, e1⟩ := Kd.S_slice ho1; subst e0 e1; skip; clear ho0 ho1 hb) | ((with_reducible refine gate_store (t := 25) (p := 11) rfl ?_); refine store_event (t := 25) (p := 11) (v := .tmp 38) (w1 := layT w13 (.slice A13 lx.length c13) (.slice B13 mx.length d13)) ?hg ?ho ?hn ?hr ?_; (case ho => rfl); (case hg => rfl); (case hn => rfl); (case hr => first | (go_simp; done) | (go_simp; rfl)); intro w14 hw; have FX14 := Am (FX13.out.below (show Below w13.heap.size w13 w14 by rw [hw]; exact layT_below _ _ _)); clear hw))
 clear FS1 FS5 FW5 HB1 HB2 HB3 HB4 HB5 HB8 HB9 XT4 XT5 XT8 XT9 TT4 TT5 TT8 TT9 FT3 GT3 FT9 GT9 FX10 FX11 FX12 FX13
 generalize w3.heap.size = bt at FX14 ⊢
 generalize w9.heap.size = bu at FX14 ⊢
 have FX := Am (FX14.out.below (below_drew (Below.refl _ _)))
 obtain ⟨va, hva⟩ : ∃ v : Value, v = .bool false := ⟨_, rfl⟩
 obtain ⟨vb, hvb⟩ : ∃ v : Value, v = .bool false := ⟨_, rfl⟩
 obtain ⟨ga, hga⟩ : ∃ v : Nat, v = 0 := ⟨_, rfl⟩
 obtain ⟨gb, hgb⟩ : ∃ v : Nat, v = 0 := ⟨_, rfl⟩
 clear hva hvb hga hgb FX14
 refine start_ (n := 55) (S := fun w' => w'.cell? ⟨bt, 0, none⟩ = some (.slice A3 lt.length c3) ∧ w'.cell? ⟨bt, 1, none⟩ = some (.slice B3 mt.length d3) ∧ w'.cell? ⟨bu, 0, none⟩ = some (.slice A9 lu.length c9) ∧ w'.cell? ⟨bu, 1, none⟩ = some (.slice B9 mu.length d9)) (ds := []) q9_0 (by kernel_rfl) rfl rfl ⟨(bc FX.out.xt 0).trans rfl, (bc FX.out.xt 1).trans rfl, (bc FX.out.xu 0).trans rfl, (bc FX.out.xu 1).trans rfl⟩ (fun hHeld => ?_)
 refine with_tabW shuttlecocklaw07_fixed.tab6 shuttlecocklaw07_fixed.bits6 (fun HT_ HW_ => ?_)
 generalize w14.drew = wd at FX hHeld ⊢
 refine Own.pr_ 0 (some 41) q9_1 HT_ (h := ?_)
 refine Own.pr_ 1 (some 42) q9_2 HT_ (h := ?_)
 refine Own.pr_ 2 (some 43) q9_3 HT_ (h := ?_)
 refine Own.tk_ 3 (some 44) q9_4 HT_ HW_ hHeld (hy := by rintro w' ⟨s0, s1, s2, s3⟩; go_simp; with_reducible rfl) (h := ?_)
 refine one_ (i := 4) (N := some 45) q9_5 rfl rfl (one_of HT_.out (by kernel_rfl)) (by decide) (fun K hK => ?_)
 refine goes_ Try.func17 (by kernel_rfl) rfl #[] (by rfl) rfl rfl (by (try simp only [List.map_toArray, List.map_cons, List.map_nil]); first | done | rfl | (simp only [List.length_drop, List.length_take]; rfl)) ?_
 with_reducible refine (shuttlecocklaw07_some.calls _ _ _ rfl).mono ?_
 rintro e w20 ⟨v0, v1, rfl, ho0, ho1, hb⟩
 refine ⟨_, rfl, ?_⟩
 obtain ⟨A20, c20, e0⟩ := Kd.R_slice ho0
 obtain ⟨B20, d20, e1⟩ := Kd.N_slice ho1
 subst e0 e1
 have FS20 := Am (FT.ofN (l := fxS) (m := fxM) ho0 ho1)
 have FX20 := Am (FX.out.below hb)
 clear ho0 ho1 hb
 refine hK.out _ _ ⟨(bc FX20.out.xt 0).trans rfl, (bc FX20.out.xt 1).trans rfl, (bc FX20.out.xu 0).trans rfl, (bc FX20.out.xu 1).trans rfl⟩ (fun hHeld => ?_)
 clear hK K
 refine norm_ (a' := ?_) ?_ ?_
 rotate_left
 ·
  show Act.put _ (some 45) _ = _
  simp only [Act.put, sI, sZ, sS, i64_w, i32_w]
  rfl
 refine one_ (i := 5) (N := some 46) q9_6 rfl rfl (one_of HT_.out (by kernel_rfl)) (by decide) (fun K hK => ?_)
 refine goes_ Try.func15 (by kernel_rfl) rfl #[.agg #[.slice A3 lt.length c3, .slice B3 mt.length d3], .agg #[.slice A20 2 c20, .slice B20 1 d20]] (by rfl) rfl rfl (by (try simp only [List.map_toArray, List.map_cons, List.map_nil]); first | done | rfl | (simp only [List.length_drop, List.length_take]; rfl)) ?_
 with_reducible refine (fx_same k FX20.out.t FS20.out h7.out).mono ?_
 rintro e w21 ⟨rfl, hb⟩
 refine ⟨_, rfl, ?_⟩
 have FX21 := Am (FX20.out.below hb)
 clear hb
 refine hK.out _ _ ⟨(bc FX21.out.xt 0).trans rfl, (bc FX21.out.xt 1).trans rfl, (bc FX21.out.xu 0).trans rfl, (bc FX21.out.xu 1).trans rfl⟩ (fun hHeld => ?_)
 clear hK K
 refine norm_ (a' := ?_) ?_ ?_
 rotate_left
 ·
  show Act.put _ (some 46) _ = _
  simp only [Act.put, sI, sZ, sS, i64_w, i32_w]
  rfl
 refine Own.pr_ 6 (some 47) q9_7 HT_ (h := ?_)
 refine Own.pr_ 7 (some 48) q9_8 HT_ (h := ?_)
 refine Own.pr_ 8 (some 49) q9_9 HT_ (h := ?_)
 refine Own.pr_ 9 (some 50) q9_10 HT_ (h := ?_)
 refine Own.pr_ 10 (some 51) q9_11 HT_ (h := ?_)
 refine Own.pr_ 11 (some 52) q9_12 HT_ (h := ?_)
 refine Own.pr_ 12 (some 53) q9_13 HT_ (h := ?_)
 refine Own.pr_ 13 (some 54) q9_14 HT_ (h := ?_)
 refine Own.pr_ 14 (some 55) q9_15 HT_ (h := ?_)
 refine Own.pr_ 15 (some 56) q9_16 HT_ (h := ?_)
 refine Own.pr_ 16 (some 57) q9_17 HT_ (h := ?_)
 refine Own.pr_ 17 (some 58) q9_18 HT_ (h := ?_)
 refine Own.tk_ 18 (some 59) q9_19 HT_ HW_ hHeld (hy := by rintro w' ⟨s0, s1, s2, s3⟩; go_simp; with_reducible rfl) (h := ?_)
 refine one_ (i := 19) (N := some 60) q9_20 rfl rfl (one_of HT_.out (by kernel_rfl)) (by decide) (fun K hK => ?_)
 refine goes_ Try.func17 (by kernel_rfl) rfl #[] (by rfl) rfl rfl (by (try simp only [List.map_toArray, List.map_cons, List.map_nil]); first | done | rfl | (simp only [List.length_drop, List.length_take]; rfl)) ?_
 with_reducible refine (shuttlecocklaw07_some.calls _ _ _ rfl).mono ?_
 rintro e w22 ⟨v0, v1, rfl, ho0, ho1, hb⟩
 refine ⟨_, rfl, ?_⟩
 obtain ⟨A22, c22, e0⟩ := Kd.R_slice ho0
 obtain ⟨B22, d22, e1⟩ := Kd.N_slice ho1
 subst e0 e1
 have FS22 := Am (FT.ofN (l := fxS) (m := fxM) ho0 ho1)
 have FX22 := Am (FX21.out.below hb)
 clear ho0 ho1 hb
 refine hK.out _ _ ⟨(bc FX22.out.xt 0).trans rfl, (bc FX22.out.xt 1).trans rfl, (bc FX22.out.xu 0).trans rfl, (bc FX22.out.xu 1).trans rfl⟩ (fun hHeld => ?_)
 clear hK K
 refine norm_ (a' := ?_) ?_ ?_
 rotate_left
 ·
  show Act.put _ (some 60) _ = _
  simp only [Act.put, sI, sZ, sS, i64_w, i32_w]
  rfl
 refine one_ (i := 20) (N := some 61) q9_21 rfl rfl (one_of HT_.out (by kernel_rfl)) (by decide) (fun K hK => ?_)
 refine goes_ Try.func15 (by kernel_rfl) rfl #[.agg #[.slice A9 lu.length c9, .slice B9 mu.length d9], .agg #[.slice A22 2 c22, .slice B22 1 d22]] (by rfl) rfl rfl (by (try simp only [List.map_toArray, List.map_cons, List.map_nil]); first | done | rfl | (simp only [List.length_drop, List.length_take]; rfl)) ?_
 with_reducible refine (fx_same k FX22.out.u FS22.out h8.out).mono ?_
 rintro e w23 ⟨rfl, hb⟩
 refine ⟨_, rfl, ?_⟩
 have FX23 := Am (FX22.out.below hb)
 clear hb
 refine hK.out _ _ ⟨(bc FX23.out.xt 0).trans rfl, (bc FX23.out.xt 1).trans rfl, (bc FX23.out.xu 0).trans rfl, (bc FX23.out.xu 1).trans rfl⟩ (fun hHeld => ?_)
 clear hK K
 refine norm_ (a' := ?_) ?_ ?_
 rotate_left
 ·
  show Act.put _ (some 61) _ = _
  simp only [Act.put, sI, sZ, sS, i64_w, i32_w]
  rfl
 refine Own.pr_ 21 (some 62) q9_22 HT_ (h := ?_)
 refine Own.pr_ 22 (some 63) q9_23 HT_ (h := ?_)
 refine Own.pr_ 23 (some 64) q9_24 HT_ (h := ?_)
 refine Own.pr_ 24 (some 65) q9_25 HT_ (h := ?_)
 refine Own.pr_ 25 (some 66) q9_26 HT_ (h := ?_)
 refine Own.pr_ 26 (some 67) q9_27 HT_ (h := ?_)
 refine Own.pr_ 27 (some 68) q9_28 HT_ (h := ?_)
 refine Own.pr_ 28 (some 69) q9_29 HT_ (h := ?_)
 refine Own.pr_ 29 (some 70) q9_30 HT_ (h := ?_)
 refine Own.pr_ 30 (some 71) q9_31 HT_ (h := ?_)
 refine Own.pr_ 31 (some 72) q9_32 HT_ (h := ?_)
 refine Own.pr_ 32 (some 73) q9_33 HT_ (h := ?_)
 refine Own.pr_ 33 (some 74) q9_34 HT_ (h := ?_)
 refine Own.pr_ 34 (some 75) q9_35 HT_ (h := ?_)
 refine Own.pr_ 35 (some 76) q9_36 HT_ (h := ?_)
 refine Own.pr_ 36 (some 77) q9_37 HT_ (h := ?_)
 refine Own.pr_ 37 (some 78) q9_38 HT_ (h := ?_)
 refine Own.pr_ 38 (some 79) q9_39 HT_ (h := ?_)
 refine Own.pr_ 39 (some 80) q9_40 HT_ (h := ?_)
 refine Own.pr_ 40 (some 81) q9_41 HT_ (h := ?_)
 refine Own.pr_ 41 (some 82) q9_42 HT_ (h := ?_)
 refine Own.pr_ 42 (some 83) q9_43 HT_ (h := ?_)
 refine Own.pr_ 43 (some 84) q9_44 HT_ (h := ?_)
 refine one_ (i := 44) (N := some 85) q9_45 rfl rfl (one_of HT_.out (by kernel_rfl)) (by decide) (fun K hK => ?_)
 refine goes_ Try.func11 (by kernel_rfl) rfl #[.agg #[.slice none 0 0, .slice none 0 0]] (by rfl) rfl rfl (by (try simp only [List.map_toArray, List.map_cons, List.map_nil]); first | done | rfl | (simp only [List.length_drop, List.length_take]; rfl)) ?_
 with_reducible refine (fx_nil k _ h9.out).mono ?_
 rintro e w24 ⟨rfl, hb⟩
 refine ⟨_, rfl, ?_⟩
 have FX24 := Am (FX23.out.below hb)
 have hF : Aside0 (FK w bt A3 c3 lt B3 d3 mt bu A9 c9 lu B9 d9 mu false false false va vb ga gb w24) := ⟨⟨FX24.out, fun e => absurd e (by decide), fun e => absurd e (by decide), fun e => absurd e (by decide)⟩⟩
 clear hb
 refine hK.out _ _ ⟨(bc FX24.out.xt 0).trans rfl, (bc FX24.out.xt 1).trans rfl, (bc FX24.out.xu 0).trans rfl, (bc FX24.out.xu 1).trans rfl⟩ (fun hHeld => ?_)
 clear hK K
 refine norm_ (a' := ?_) ?_ ?_
 rotate_left
 ·
  show Act.put _ (some 85) _ = _
  simp only [Act.put, sI, sZ, sS, i64_w, i32_w]
  rfl
 refine Own.pr_ 45 (some 86) q9_46 HT_ (h := ?_)
 refine Own.pr_ 46 (some 87) q9_47 HT_ (h := ?_)
 refine Own.pr_ 47 (some 88) q9_48 HT_ (h := ?_)
 refine join_ (σ := Value × Value × Nat × Nat) 4 q9_49 (fun s => [(89, .agg #[s.1, s.2.1]), (90, .slice (some ⟨s.2.2.1, 0, none⟩) 2 2), (91, .slice (some ⟨s.2.2.2, 0, none⟩) 1 1)]) (fun s w' => FK w bt A3 c3 lt B3 d3 mt bu A9 c9 lu B9 d9 mu true true true s.1 s.2.1 s.2.2.1 s.2.2.2 w') ?_ ?_
 rotate_left
 ·
  intro hJ48_49_50
  refine join_ (σ := Value × Value × Nat × Nat) 5 q9_50 (fun s => [(89, .agg #[s.1, s.2.1]), (90, .slice (some ⟨s.2.2.1, 0, none⟩) 2 2)]) (fun s w' => FK w bt A3 c3 lt B3 d3 mt bu A9 c9 lu B9 d9 mu true true false s.1 s.2.1 s.2.2.1 s.2.2.2 w') ?_ ?_
  rotate_left
  ·
   intro hJ48_49
   refine join_ (σ := Value × Value × Nat × Nat) 5 q9_51 (fun s => [(89, .agg #[s.1, s.2.1]), (91, .slice (some ⟨s.2.2.2, 0, none⟩) 1 1)]) (fun s w' => FK w bt A3 c3 lt B3 d3 mt bu A9 c9 lu B9 d9 mu true false true s.1 s.2.1 s.2.2.1 s.2.2.2 w') ?_ ?_
   rotate_left
   ·
    intro hJ48_50
    refine join_ (σ := Value × Value × Nat × Nat) 5 q9_52 (fun s => [(90, .slice (some ⟨s.2.2.1, 0, none⟩) 2 2), (91, .slice (some ⟨s.2.2.2, 0, none⟩) 1 1)]) (fun s w' => FK w bt A3 c3 lt B3 d3 mt bu A9 c9 lu B9 d9 mu false true true s.1 s.2.1 s.2.2.1 s.2.2.2 w') ?_ ?_
    rotate_left
    ·
     intro hJ49_50
     refine join_ (σ := Value × Value × Nat × Nat) 6 q9_53 (fun s => [(89, .agg #[s.1, s.2.1])]) (fun s w' => FK w bt A3 c3 lt B3 d3 mt bu A9 c9 lu B9 d9 mu true false false s.1 s.2.1 s.2.2.1 s.2.2.2 w') ?_ ?_
     rotate_left
     ·
      intro hJ48
      refine join_ (σ := Value × Value × Nat × Nat) 6 q9_54 (fun s => [(90, .slice (some ⟨s.2.2.1, 0, none⟩) 2 2)]) (fun s w' => FK w bt A3 c3 lt B3 d3 mt bu A9 c9 lu B9 d9 mu false true false s.1 s.2.1 s.2.2.1 s.2.2.2 w') ?_ ?_
      rotate_left
      ·
       intro hJ49
       refine join_ (σ := Value × Value × Nat × Nat) 6 q9_55 (fun s => [(91, .slice (some ⟨s.2.2.2, 0, none⟩) 1 1)]) (fun s w' => FK w bt A3 c3 lt B3 d3 mt bu A9 c9 lu B9 d9 mu false false true s.1 s.2.1 s.2.2.1 s.2.2.2 w') ?_ ?_
       rotate_left
       ·
        intro hJ50
        refine three_ (i := 48) (j := 49) (k := 50) (Ni := some 89) (Nj := some 90) (Nk := some 91) q9_53 q9_54 q9_55 rfl rfl rfl rfl rfl rfl (three_of HT_.out (by kernel_rfl)) (by decide) (by decide) (by decide) (fun K hK => ?_) (fun K hK => ?_) (fun K hK => ?_)
        ·
         skip
         refine goes_ Try.func17 (by kernel_rfl) rfl #[] (by rfl) rfl rfl (by (try simp only [List.map_toArray, List.map_cons, List.map_nil]); first | done | rfl) ?_
         with_reducible refine (shuttlecocklaw07_some.calls _ _ _ rfl).mono ?_
         rintro e wn ⟨vx, vy, rfl, ho0, ho1, hb⟩
         refine ⟨_, rfl, ?_⟩
         have hG := Am (FK.one hF.out ho0 ho1 hb)
         clear ho0 ho1 hb
         refine hK.out _ _ ⟨(bc hG.out.x.xt 0).trans rfl, (bc hG.out.x.xt 1).trans rfl, (bc hG.out.x.xu 0).trans rfl, (bc hG.out.x.xu 1).trans rfl⟩ (fun hHeld => ?_)
         clear hK K
         refine norm_ (a' := ?_) ?_ ?_
         rotate_left
         ·
          show Act.put _ (some 89) _ = _
          simp only [Act.put, sI, sZ, sS, i64_w, i32_w]
          rfl
         exact norm_ (by first | (simp only [putAll, Act.put, sI, sZ, sS]; done) | (simp only [putAll, Act.put, sI, sZ, sS]; rfl)) (hJ48 ⟨vx, vy, ga, gb⟩ _ hG.out)
        ·
         skip
         refine value_ (w1 := ?_) (v := ?_) (by rfl) rfl ?_ ?_
         rotate_left 2
         ·
          go_simp
          constructor
          ·
           rfl
          ·
           rfl
         have hG := Am (FK.two hF.out)
         refine hK.out _ _ ⟨(bc hG.out.x.xt 0).trans rfl, (bc hG.out.x.xt 1).trans rfl, (bc hG.out.x.xu 0).trans rfl, (bc hG.out.x.xu 1).trans rfl⟩ (fun hHeld => ?_)
         clear hK K
         refine norm_ (a' := ?_) ?_ ?_
         rotate_left
         ·
          show Act.put _ (some 90) _ = _
          simp only [Act.put, sI, sZ, sS, i64_w, i32_w]
          rfl
         exact norm_ (by first | (simp only [putAll, Act.put, sI, sZ, sS]; done) | (simp only [putAll, Act.put, sI, sZ, sS]; rfl)) (hJ49 ⟨va, vb, _, gb⟩ _ hG.out)
        ·
         skip
         refine value_ (w1 := ?_) (v := ?_) (by rfl) rfl ?_ ?_
         rotate_left 2
         ·
          go_simp
          constructor
          ·
           rfl
          ·
           rfl
         have hG := Am (FK.three hF.out)
         refine hK.out _ _ ⟨(bc hG.out.x.xt 0).trans rfl, (bc hG.out.x.xt 1).trans rfl, (bc hG.out.x.xu 0).trans rfl, (bc hG.out.x.xu 1).trans rfl⟩ (fun hHeld => ?_)
         clear hK K
         refine norm_ (a' := ?_) ?_ ?_
         rotate_left
         ·
          show Act.put _ (some 91) _ = _
          simp only [Act.put, sI, sZ, sS, i64_w, i32_w]
          rfl
         exact norm_ (by first | (simp only [putAll, Act.put, sI, sZ, sS]; done) | (simp only [putAll, Act.put, sI, sZ, sS]; rfl)) (hJ50 ⟨va, vb, ga, _⟩ _ hG.out)
       ·
        skip
        rintro ⟨va, vb, ga, gb⟩ wk hF
        replace hF := Am hF
        have hHeld : wk.cell? ⟨bt, 0, none⟩ = some (.slice A3 lt.length c3) ∧ wk.cell? ⟨bt, 1, none⟩ = some (.slice B3 mt.length d3) ∧ wk.cell? ⟨bu, 0, none⟩ = some (.slice A9 lu.length c9) ∧ wk.cell? ⟨bu, 1, none⟩ = some (.slice B9 mu.length d9) := ⟨(bc hF.out.x.xt 0).trans rfl, (bc hF.out.x.xt 1).trans rfl, (bc hF.out.x.xu 0).trans rfl, (bc hF.out.x.xu 1).trans rfl⟩
        refine norm_ (a' := ?_) ?_ ?_
        rotate_left
        ·
         simp only [putAll, Act.put, sI, sZ, sS]
         rfl
        refine two_ (i := 48) (j := 49) (Ni := some 89) (Nj := some 90) q9_51 q9_52 rfl rfl rfl rfl (two_of HT_.out (by kernel_rfl)) (by decide) (by decide) (fun K hK => ?_) (fun K hK => ?_)
        ·
         skip
         refine goes_ Try.func17 (by kernel_rfl) rfl #[] (by rfl) rfl rfl (by (try simp only [List.map_toArray, List.map_cons, List.map_nil]); first | done | rfl) ?_
         with_reducible refine (shuttlecocklaw07_some.calls _ _ _ rfl).mono ?_
         rintro e wn ⟨vx, vy, rfl, ho0, ho1, hb⟩
         refine ⟨_, rfl, ?_⟩
         have hG := Am (FK.one hF.out ho0 ho1 hb)
         clear ho0 ho1 hb
         refine hK.out _ _ ⟨(bc hG.out.x.xt 0).trans rfl, (bc hG.out.x.xt 1).trans rfl, (bc hG.out.x.xu 0).trans rfl, (bc hG.out.x.xu 1).trans rfl⟩ (fun hHeld => ?_)
         clear hK K
         refine norm_ (a' := ?_) ?_ ?_
         rotate_left
         ·
          show Act.put _ (some 89) _ = _
          simp only [Act.put, sI, sZ, sS, i64_w, i32_w]
          rfl
         exact norm_ (by first | (simp only [putAll, Act.put, sI, sZ, sS]; done) | (simp only [putAll, Act.put, sI, sZ, sS]; rfl)) (hJ48_50 ⟨vx, vy, ga, gb⟩ _ hG.out)
        ·
         skip
         refine value_ (w1 := ?_) (v := ?_) (by rfl) rfl ?_ ?_
         rotate_left 2
         ·
          go_simp
          constructor
          ·
           rfl
          ·
           rfl
         have hG := Am (FK.two hF.out)
         refine hK.out _ _ ⟨(bc hG.out.x.xt 0).trans rfl, (bc hG.out.x.xt 1).trans rfl, (bc hG.out.x.xu 0).trans rfl, (bc hG.out.x.xu 1).trans rfl⟩ (fun hHeld => ?_)
         clear hK K
         refine norm_ (a' := ?_) ?_ ?_
         rotate_left
         ·
          show Act.put _ (some 90) _ = _
          simp only [Act.put, sI, sZ, sS, i64_w, i32_w]
          rfl
         exact norm_ (by first | (simp only [putAll, Act.put, sI, sZ, sS]; done) | (simp only [putAll, Act.put, sI, sZ, sS]; rfl)) (hJ49_50 ⟨va, vb, _, gb⟩ _ hG.out)
      ·
       skip
       rintro ⟨va, vb, ga, gb⟩ wk hF
       replace hF := Am hF
       have hHeld : wk.cell? ⟨bt, 0, none⟩ = some (.slice A3 lt.length c3) ∧ wk.cell? ⟨bt, 1, none⟩ = some (.slice B3 mt.length d3) ∧ wk.cell? ⟨bu, 0, none⟩ = some (.slice A9 lu.length c9) ∧ wk.cell? ⟨bu, 1, none⟩ = some (.slice B9 mu.length d9) := ⟨(bc hF.out.x.xt 0).trans rfl, (bc hF.out.x.xt 1).trans rfl, (bc hF.out.x.xu 0).trans rfl, (bc hF.out.x.xu 1).trans rfl⟩
       refine norm_ (a' := ?_) ?_ ?_
       rotate_left
       ·
        simp only [putAll, Act.put, sI, sZ, sS]
        rfl
       refine two_ (i := 48) (j := 50) (Ni := some 89) (Nj := some 91) q9_50 q9_52 rfl rfl rfl rfl (two_of HT_.out (by kernel_rfl)) (by decide) (by decide) (fun K hK => ?_) (fun K hK => ?_)
       ·
        skip
        refine goes_ Try.func17 (by kernel_rfl) rfl #[] (by rfl) rfl rfl (by (try simp only [List.map_toArray, List.map_cons, List.map_nil]); first | done | rfl) ?_
        with_reducible refine (shuttlecocklaw07_some.calls _ _ _ rfl).mono ?_
        rintro e wn ⟨vx, vy, rfl, ho0, ho1, hb⟩
        refine ⟨_, rfl, ?_⟩
        have hG := Am (FK.one hF.out ho0 ho1 hb)
        clear ho0 ho1 hb
        refine hK.out _ _ ⟨(bc hG.out.x.xt 0).trans rfl, (bc hG.out.x.xt 1).trans rfl, (bc hG.out.x.xu 0).trans rfl, (bc hG.out.x.xu 1).trans rfl⟩ (fun hHeld => ?_)
        clear hK K
        refine norm_ (a' := ?_) ?_ ?_
        rotate_left
        ·
         show Act.put _ (some 89) _ = _
         simp only [Act.put, sI, sZ, sS, i64_w, i32_w]
         rfl
        exact norm_ (by first | (simp only [putAll, Act.put, sI, sZ, sS]; done) | (simp only [putAll, Act.put, sI, sZ, sS]; rfl)) (hJ48_49 ⟨vx, vy, ga, gb⟩ _ hG.out)
       ·
        skip
        refine value_ (w1 := ?_) (v := ?_) (by rfl) rfl ?_ ?_
        rotate_left 2
        ·
         go_simp
         constructor
         ·
          rfl
         ·
          rfl
        have hG := Am (FK.three hF.out)
        refine hK.out _ _ ⟨(bc hG.out.x.xt 0).trans rfl, (bc hG.out.x.xt 1).trans rfl, (bc hG.out.x.xu 0).trans rfl, (bc hG.out.x.xu 1).trans rfl⟩ (fun hHeld => ?_)
        clear hK K
        refine norm_ (a' := ?_) ?_ ?_
        rotate_left
        ·
         show Act.put _ (some 91) _ = _
         simp only [Act.put, sI, sZ, sS, i64_w, i32_w]
         rfl
        exact norm_ (by first | (simp only [putAll, Act.put, sI, sZ, sS]; done) | (simp only [putAll, Act.put, sI, sZ, sS]; rfl)) (hJ49_50 ⟨va, vb, ga, _⟩ _ hG.out)
     ·
      skip
      rintro ⟨va, vb, ga, gb⟩ wk hF
      replace hF := Am hF
      have hHeld : wk.cell? ⟨bt, 0, none⟩ = some (.slice A3 lt.length c3) ∧ wk.cell? ⟨bt, 1, none⟩ = some (.slice B3 mt.length d3) ∧ wk.cell? ⟨bu, 0, none⟩ = some (.slice A9 lu.length c9) ∧ wk.cell? ⟨bu, 1, none⟩ = some (.slice B9 mu.length d9) := ⟨(bc hF.out.x.xt 0).trans rfl, (bc hF.out.x.xt 1).trans rfl, (bc hF.out.x.xu 0).trans rfl, (bc hF.out.x.xu 1).trans rfl⟩
      refine norm_ (a' := ?_) ?_ ?_
      rotate_left
      ·
       simp only [putAll, Act.put, sI, sZ, sS]
       rfl
      refine two_ (i := 49) (j := 50) (Ni := some 90) (Nj := some 91) q9_50 q9_51 rfl rfl rfl rfl (two_of HT_.out (by kernel_rfl)) (by decide) (by decide) (fun K hK => ?_) (fun K hK => ?_)
      ·
       skip
       refine value_ (w1 := ?_) (v := ?_) (by rfl) rfl ?_ ?_
       rotate_left 2
       ·
        go_simp
        constructor
        ·
         rfl
        ·
         rfl
       have hG := Am (FK.two hF.out)
       refine hK.out _ _ ⟨(bc hG.out.x.xt 0).trans rfl, (bc hG.out.x.xt 1).trans rfl, (bc hG.out.x.xu 0).trans rfl, (bc hG.out.x.xu 1).trans rfl⟩ (fun hHeld => ?_)
       clear hK K
       refine norm_ (a' := ?_) ?_ ?_
       rotate_left
       ·
        show Act.put _ (some 90) _ = _
        simp only [Act.put, sI, sZ, sS, i64_w, i32_w]
        rfl
       exact norm_ (by first | (simp only [putAll, Act.put, sI, sZ, sS]; done) | (simp only [putAll, Act.put, sI, sZ, sS]; rfl)) (hJ48_49 ⟨va, vb, _, gb⟩ _ hG.out)
      ·
       skip
       refine value_ (w1 := ?_) (v := ?_) (by rfl) rfl ?_ ?_
       rotate_left 2
       ·
        go_simp
        constructor
        ·
         rfl
        ·
         rfl
       have hG := Am (FK.three hF.out)
       refine hK.out _ _ ⟨(bc hG.out.x.xt 0).trans rfl, (bc hG.out.x.xt 1).trans rfl, (bc hG.out.x.xu 0).trans rfl, (bc hG.out.x.xu 1).trans rfl⟩ (fun hHeld => ?_)
       clear hK K
       refine norm_ (a' := ?_) ?_ ?_
       rotate_left
       ·
        show Act.put _ (some 91) _ = _
        simp only [Act.put, sI, sZ, sS, i64_w, i32_w]
        rfl
       exact norm_ (by first | (simp only [putAll, Act.put, sI, sZ, sS]; done) | (simp only [putAll, Act.put, sI, sZ, sS]; rfl)) (hJ48_50 ⟨va, vb, ga, _⟩ _ hG.out)
    ·
     skip
     rintro ⟨va, vb, ga, gb⟩ wk hF
     replace hF := Am hF
     have hHeld : wk.cell? ⟨bt, 0, none⟩ = some (.slice A3 lt.length c3) ∧ wk.cell? ⟨bt, 1, none⟩ = some (.slice B3 mt.length d3) ∧ wk.cell? ⟨bu, 0, none⟩ = some (.slice A9 lu.length c9) ∧ wk.cell? ⟨bu, 1, none⟩ = some (.slice B9 mu.length d9) := ⟨(bc hF.out.x.xt 0).trans rfl, (bc hF.out.x.xt 1).trans rfl, (bc hF.out.x.xu 0).trans rfl, (bc hF.out.x.xu 1).trans rfl⟩
     refine norm_ (a' := ?_) ?_ ?_
     rotate_left
     ·
      simp only [putAll, Act.put, sI, sZ, sS]
      rfl
     refine one_ (i := 48) (N := some 89) q9_49 rfl rfl (one_of HT_.out (by kernel_rfl)) (by decide) (fun K hK => ?_)
     refine goes_ Try.func17 (by kernel_rfl) rfl #[] (by rfl) rfl rfl (by (try simp only [List.map_toArray, List.map_cons, List.map_nil]); first | done | rfl) ?_
     with_reducible refine (shuttlecocklaw07_some.calls _ _ _ rfl).mono ?_
     rintro e wn ⟨vx, vy, rfl, ho0, ho1, hb⟩
     refine ⟨_, rfl, ?_⟩
     have hG := Am (FK.one hF.out ho0 ho1 hb)
     clear ho0 ho1 hb
     refine hK.out _ _ ⟨(bc hG.out.x.xt 0).trans rfl, (bc hG.out.x.xt 1).trans rfl, (bc hG.out.x.xu 0).trans rfl, (bc hG.out.x.xu 1).trans rfl⟩ (fun hHeld => ?_)
     clear hK K
     refine norm_ (a' := ?_) ?_ ?_
     rotate_left
     ·
      show Act.put _ (some 89) _ = _
      simp only [Act.put, sI, sZ, sS, i64_w, i32_w]
      rfl
     exact norm_ (by first | (simp only [putAll, Act.put, sI, sZ, sS]; done) | (simp only [putAll, Act.put, sI, sZ, sS]; rfl)) (hJ48_49_50 ⟨vx, vy, ga, gb⟩ _ hG.out)
   ·
    skip
    rintro ⟨va, vb, ga, gb⟩ wk hF
    replace hF := Am hF
    have hHeld : wk.cell? ⟨bt, 0, none⟩ = some (.slice A3 lt.length c3) ∧ wk.cell? ⟨bt, 1, none⟩ = some (.slice B3 mt.length d3) ∧ wk.cell? ⟨bu, 0, none⟩ = some (.slice A9 lu.length c9) ∧ wk.cell? ⟨bu, 1, none⟩ = some (.slice B9 mu.length d9) := ⟨(bc hF.out.x.xt 0).trans rfl, (bc hF.out.x.xt 1).trans rfl, (bc hF.out.x.xu 0).trans rfl, (bc hF.out.x.xu 1).trans rfl⟩
    refine norm_ (a' := ?_) ?_ ?_
    rotate_left
    ·
     simp only [putAll, Act.put, sI, sZ, sS]
     rfl
    refine one_ (i := 49) (N := some 90) q9_49 rfl rfl (one_of HT_.out (by kernel_rfl)) (by decide) (fun K hK => ?_)
    refine value_ (w1 := ?_) (v := ?_) (by rfl) rfl ?_ ?_
    rotate_left 2
    ·
     go_simp
     constructor
     ·
      rfl
     ·
      rfl
    have hG := Am (FK.two hF.out)
    refine hK.out _ _ ⟨(bc hG.out.x.xt 0).trans rfl, (bc hG.out.x.xt 1).trans rfl, (bc hG.out.x.xu 0).trans rfl, (bc hG.out.x.xu 1).trans rfl⟩ (fun hHeld => ?_)
    clear hK K
    refine norm_ (a' := ?_) ?_ ?_
    rotate_left
    ·
     show Act.put _ (some 90) _ = _
     simp only [Act.put, sI, sZ, sS, i64_w, i32_w]
     rfl
    exact norm_ (by first | (simp only [putAll, Act.put, sI, sZ, sS]; done) | (simp only [putAll, Act.put, sI, sZ, sS]; rfl)) (hJ48_49_50 ⟨va, vb, _, gb⟩ _ hG.out)
  ·
   skip
   rintro ⟨va, vb, ga, gb⟩ wk hF
   replace hF := Am hF
   have hHeld : wk.cell? ⟨bt, 0, none⟩ = some (.slice A3 lt.length c3) ∧ wk.cell? ⟨bt, 1, none⟩ = some (.slice B3 mt.length d3) ∧ wk.cell? ⟨bu, 0, none⟩ = some (.slice A9 lu.length c9) ∧ wk.cell? ⟨bu, 1, none⟩ = some (.slice B9 mu.length d9) := ⟨(bc hF.out.x.xt 0).trans rfl, (bc hF.out.x.xt 1).trans rfl, (bc hF.out.x.xu 0).trans rfl, (bc hF.out.x.xu 1).trans rfl⟩
   refine norm_ (a' := ?_) ?_ ?_
   rotate_left
   ·
    simp only [putAll, Act.put, sI, sZ, sS]
    rfl
   refine one_ (i := 50) (N := some 91) q9_49 rfl rfl (one_of HT_.out (by kernel_rfl)) (by decide) (fun K hK => ?_)
   refine value_ (w1 := ?_) (v := ?_) (by rfl) rfl ?_ ?_
   rotate_left 2
   ·
    go_simp
    constructor
    ·
     rfl
    ·
     rfl
   have hG := Am (FK.three hF.out)
   refine hK.out _ _ ⟨(bc hG.out.x.xt 0).trans rfl, (bc hG.out.x.xt 1).trans rfl, (bc hG.out.x.xu 0).trans rfl, (bc hG.out.x.xu 1).trans rfl⟩ (fun hHeld => ?_)
   clear hK K
   refine norm_ (a' := ?_) ?_ ?_
   rotate_left
   ·
    show Act.put _ (some 91) _ = _
    simp only [Act.put, sI, sZ, sS, i64_w, i32_w]
    rfl
   exact norm_ (by first | (simp only [putAll, Act.put, sI, sZ, sS]; done) | (simp only [putAll, Act.put, sI, sZ, sS]; rfl)) (hJ48_49_50 ⟨va, vb, ga, _⟩ _ hG.out)
 rintro ⟨va, vb, ga, gb⟩ wk hF
 replace hF := Am hF
 have hHeld : wk.cell? ⟨bt, 0, none⟩ = some (.slice A3 lt.length c3) ∧ wk.cell? ⟨bt, 1, none⟩ = some (.slice B3 mt.length d3) ∧ wk.cell? ⟨bu, 0, none⟩ = some (.slice A9 lu.length c9) ∧ wk.cell? ⟨bu, 1, none⟩ = some (.slice B9 mu.length d9) := ⟨(bc hF.out.x.xt 0).trans rfl, (bc hF.out.x.xt 1).trans rfl, (bc hF.out.x.xu 0).trans rfl, (bc hF.out.x.xu 1).trans rfl⟩
 refine norm_ (a' := ?_) ?_ ?_
 rotate_left
 ·
  simp only [putAll, Act.put, sI, sZ, sS]
  rfl
 refine one_ (i := 51) (N := some 92) q9_56 rfl rfl (one_of HT_.out (by kernel_rfl)) (by decide) (fun K hK => ?_)
 refine goes_ Try.func13 (by kernel_rfl) rfl #[.agg #[va, vb], .slice (some ⟨ga, 0, none⟩) 2 2, .slice (some ⟨gb, 0, none⟩) 1 1] (by rfl) rfl rfl (by (try simp only [List.map_toArray, List.map_cons, List.map_nil]); first | done | rfl | (simp only [List.length_drop, List.length_take]; rfl)) ?_
 with_reducible refine (fk_ord k hF.out h10.out).mono ?_
 rintro e w30 ⟨rfl, hb⟩
 refine ⟨_, rfl, ?_⟩
 have FX30 := Am (hF.out.x.below hb)
 clear hb
 refine hK.out _ _ ⟨(bc FX30.out.xt 0).trans rfl, (bc FX30.out.xt 1).trans rfl, (bc FX30.out.xu 0).trans rfl, (bc FX30.out.xu 1).trans rfl⟩ (fun hHeld => ?_)
 clear hK K
 refine norm_ (a' := ?_) ?_ ?_
 rotate_left
 ·
  show Act.put _ (some 92) _ = _
  simp only [Act.put, sI, sZ, sS, i64_w, i32_w]
  rfl
 refine Own.pr_ 52 (some 93) q9_57 HT_ (h := ?_)
 refine Own.pr_ 53 (some 94) q9_58 HT_ (h := ?_)
 refine Own.pr_ 54 (some 0) q9_59 HT_ (h := ?_)
 refine done_ (done_of HT_.out (by kernel_rfl)) ?_
 go_wp2
 go_ret
 exact ⟨rfl, FX30.out.b⟩

end Go.Proofs.Ytlmmlmmbnfcogaa.Q
