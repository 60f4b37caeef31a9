-- Written by a program of mine (wip/kprint.sh): a plain Lean function for each Go function, and the proof that the Go code comes to its answers. Not trusted: Lean checks it.
import Derived.Test.YtjnlmmjadlidlaaDoorPNamesx0
import Derived.Test.YtjnlmmjadlidlaaDoorPNamesx1
import Derived.Test.YtjnlmmjadlidlaaDoorPNamesx2
import Derived.Test.YtjnlmmjadlidlaaDoorPNamesx3
import Derived.Test.YtjnlmmjadlidlaaDoorPNamesx4
import Derived.Test.YtjnlmmjadlidlaaDoorPNamesx5
import Derived.Test.YtjnlmmjadlidlaaDoorPNamesx6
import Derived.Test.YtjnlmmjadlidlaaDoorPNamesx7
import Derived.Test.YtjnlmmjadlidlaaDoorPNamesx8
namespace Go.Proofs.YtjnlmmjadlidlaaDoor.PNames
open Go.RowKit Go.Proofs.YtjnlmmjadlidlaaDoorW.PrintWords Go.Proofs.YtjnlmmjadlidlaaDoorW.PrintLast Go.Proofs.YtjnlmmjadlidlaaDoorW.PrintMore
attribute [local go_sem] max2_int min2_int max_two min_two max_three min_three max_four min_four   -- for this text's walks alone
set_option linter.unusedVariables false
set_option linter.unusedSimpArgs false

end Go.Proofs.YtjnlmmjadlidlaaDoor.PNames
