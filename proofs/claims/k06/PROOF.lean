import PyProof.Rows.All
import Wide.All
import OpenK.AllK
import Wide.FinOn
import PySem.Challenge.RW_leastmend_k06_errors_are_apart
open PySem PySem.W PySem.W.X PyProof.Rows
set_option Elab.async false
set_option maxRecDepth 100000 in
set_option maxHeartbeats 0 in
theorem PySem.Challenge.cw_leastmend_k06_errors_are_apart_holds : PySem.Challenge.rw_leastmend_k06_errors_are_apart.Holds := by
  open_z
