/- Contracts of functions, written by wip/dec. -/
import Derived.Test.YtcbiiijnaeibhaaF00
import Derived.Test.YtcbiiijnaeibhaaF03
import Derived.Test.YtcbiiijnaeibhaaF04
import Derived.Test.YtcbiiijnaeibhaaF05
import Derived.Test.YtcbiiijnaeibhaaF06
import Derived.Test.YtcbiiijnaeibhaaF10
import Derived.Test.YtcbiiijnaeibhaaF12
import Derived.Test.YtcbiiijnaeibhaaF19
import Derived.Test.YtcbiiijnaeibhaaF21
set_option linter.unusedVariables false
set_option linter.unusedSimpArgs false
set_option maxHeartbeats 4000000
set_option maxRecDepth 20000
namespace Go.Proofs.Ytcbiiijnaeibhaa
open Go.Abs
/- martensite/martensitelaw03.HeatRuns -/
def r8 (a0_0 : Int) (a0_1 : Int) (a0_2 : List (Int × Int)) (a0_3 : List ((List (Int × Int)))) (a1 : List (Int)) (a2 : List ((List (Int)) × Int)) : Option (Bool) :=
  (r14).bind fun v1 =>
   if (!v1) = true then
    some false
    else (r15 a0_0 a0_1 a0_2 a0_3).bind fun v2 =>
     if (!(!v2)) = true → (r16 a1).isSome = true then
      if (!((!v2) || (!((r16 a1).getD default)))) = true → (r63 a2).isSome = true then
       if (((!v2) || (!((r16 a1).getD default))) || (!((r63 a2).getD default))) = true then
        some true
        else if (decide ((a2.length : Int) > 0)) = true then
         if 0 ≤ 0 ∧ 0 < (a2.length : Int) then
          (r18 a0_0 a0_1 a0_2 a0_3).bind fun v3 =>
           (r19 a1).bind fun v4 =>
            (r65 ((a2.getD 0 default).1) ((a2.getD 0 default).2)).bind fun v5 =>
             (r64 v3.1 v3.2.1 v3.2.2.1 v3.2.2.2 v4 v5.1 v5.2).bind fun v6 =>
              (r67 a2).bind fun v7 =>
               (r66 v3.1 v3.2.1 v3.2.2.1 v3.2.2.2 v4 v7).bind fun v8 =>
                (r68 v3.1 v3.2.1 v3.2.2.1 v3.2.2.2 v4 v7).bind fun v9 =>
                 (r69 v3.1 v3.2.1 v3.2.2.1 v3.2.2.2 v4 v7).bind fun v10 =>
                  (r21 a0_0 a0_1 a0_2 a0_3 a1).bind fun v11 =>
                   if (v11 != 0) = true then
                    some ((((((v6.2 == v11) && (v8.2 == v11)) && (v9.2.2.2.2 == v11)) && (v10.2 == v11)) && ((IntKind.i64.wrap ((IntKind.i64.wrap ((v6.1.length : Int) + (v8.1.length : Int))) + (v10.1.length : Int))) == 0)) && ((v9.1 == 0) && ((v9.2.1 == 0) && ((v9.2.2.1 == 0) && (v9.2.2.2.1 == 0)))))
                    else (r70 a0_0 a0_1 a0_2 a0_3 ((a2.getD 0 default).1) ((a2.getD 0 default).2)).bind fun v12 =>
                     if (v12 != 0) = true then
                      if ((v6.2 != v12) || ((v6.1.length : Int) != 0)) = true then
                       some false
                       else (r72 a0_0 a0_1 a0_2 a0_3 a2).bind fun v13 =>
                        if (v13 == 0) = true then
                         (r73 a0_0 a0_1 a0_2 a0_3 a1 a2).bind fun v14 =>
                          if (!v14.2.2) = true then
                           if (22 != 0) = true then
                            some (((((v8.2 == 22) && (v9.2.2.2.2 == 22)) && (v10.2 == 22)) && ((IntKind.i64.wrap ((v8.1.length : Int) + (v10.1.length : Int))) == 0)) && ((v9.1 == 0) && ((v9.2.1 == 0) && ((v9.2.2.1 == 0) && (v9.2.2.2.1 == 0)))))
                            else (r74 a0_0 a0_1 a0_2 a0_3 a1 a2).bind fun v15 =>
                             (r75 a0_0 a0_1 a0_2 a0_3 a1 a2).bind fun v16 =>
                              if (v8.2 == 0) = true → (r76 v8.1 v14.1).isSome = true then
                               if (((((v8.2 == 0) && ((r76 v8.1 v14.1).getD default)) && (v9.2.2.2.2 == 0)) && ((v9.1 == v15.1) && ((v9.2.1 == v15.2.1) && ((v9.2.2.1 == v15.2.2.1) && (v9.2.2.2.1 == v15.2.2.2.1))))) && (v10.2 == 0)) = true → (r34 v10.1 v16.1).isSome = true then
                                some ((((((v8.2 == 0) && ((r76 v8.1 v14.1).getD default)) && (v9.2.2.2.2 == 0)) && ((v9.1 == v15.1) && ((v9.2.1 == v15.2.1) && ((v9.2.2.1 == v15.2.2.1) && (v9.2.2.2.1 == v15.2.2.2.1))))) && (v10.2 == 0)) && ((r34 v10.1 v16.1).getD default))
                                else none
                               else none
                           else if (v13 != 0) = true then
                            some (((((v8.2 == v13) && (v9.2.2.2.2 == v13)) && (v10.2 == v13)) && ((IntKind.i64.wrap ((v8.1.length : Int) + (v10.1.length : Int))) == 0)) && ((v9.1 == 0) && ((v9.2.1 == 0) && ((v9.2.2.1 == 0) && (v9.2.2.2.1 == 0)))))
                            else (r74 a0_0 a0_1 a0_2 a0_3 a1 a2).bind fun v19 =>
                             (r75 a0_0 a0_1 a0_2 a0_3 a1 a2).bind fun v20 =>
                              if (v8.2 == 0) = true → (r76 v8.1 v14.1).isSome = true then
                               if (((((v8.2 == 0) && ((r76 v8.1 v14.1).getD default)) && (v9.2.2.2.2 == 0)) && ((v9.1 == v19.1) && ((v9.2.1 == v19.2.1) && ((v9.2.2.1 == v19.2.2.1) && (v9.2.2.2.1 == v19.2.2.2.1))))) && (v10.2 == 0)) = true → (r34 v10.1 v20.1).isSome = true then
                                some ((((((v8.2 == 0) && ((r76 v8.1 v14.1).getD default)) && (v9.2.2.2.2 == 0)) && ((v9.1 == v19.1) && ((v9.2.1 == v19.2.1) && ((v9.2.2.1 == v19.2.2.1) && (v9.2.2.2.1 == v19.2.2.2.1))))) && (v10.2 == 0)) && ((r34 v10.1 v20.1).getD default))
                                else none
                               else none
                         else if (v13 != 0) = true then
                          some (((((v8.2 == v13) && (v9.2.2.2.2 == v13)) && (v10.2 == v13)) && ((IntKind.i64.wrap ((v8.1.length : Int) + (v10.1.length : Int))) == 0)) && ((v9.1 == 0) && ((v9.2.1 == 0) && ((v9.2.2.1 == 0) && (v9.2.2.2.1 == 0)))))
                          else (r74 a0_0 a0_1 a0_2 a0_3 a1 a2).bind fun v23 =>
                           (r75 a0_0 a0_1 a0_2 a0_3 a1 a2).bind fun v24 =>
                            if (v8.2 == 0) = true → (r76 v8.1 []).isSome = true then
                             if (((((v8.2 == 0) && ((r76 v8.1 []).getD default)) && (v9.2.2.2.2 == 0)) && ((v9.1 == v23.1) && ((v9.2.1 == v23.2.1) && ((v9.2.2.1 == v23.2.2.1) && (v9.2.2.2.1 == v23.2.2.2.1))))) && (v10.2 == 0)) = true → (r34 v10.1 v24.1).isSome = true then
                              some ((((((v8.2 == 0) && ((r76 v8.1 []).getD default)) && (v9.2.2.2.2 == 0)) && ((v9.1 == v23.1) && ((v9.2.1 == v23.2.1) && ((v9.2.2.1 == v23.2.2.1) && (v9.2.2.2.1 == v23.2.2.2.1))))) && (v10.2 == 0)) && ((r34 v10.1 v24.1).getD default))
                              else none
                             else none
                      else (r71 a0_0 a0_1 a0_2 a0_3 a1 ((a2.getD 0 default).1) ((a2.getD 0 default).2)).bind fun v27 =>
                       if (((!((!v27.2.2) && ((v6.2 != 22) || ((v6.1.length : Int) != 0)))) && v27.2.2) && (!(v6.2 != 0))) = true → (r34 v6.1 v27.1).isSome = true then
                        if (((!v27.2.2) && ((v6.2 != 22) || ((v6.1.length : Int) != 0))) || (v27.2.2 && ((v6.2 != 0) || (!((r34 v6.1 v27.1).getD default))))) = true then
                         some false
                         else (r72 a0_0 a0_1 a0_2 a0_3 a2).bind fun v28 =>
                          if (v28 == 0) = true then
                           (r73 a0_0 a0_1 a0_2 a0_3 a1 a2).bind fun v29 =>
                            if (!v29.2.2) = true then
                             if (22 != 0) = true then
                              some (((((v8.2 == 22) && (v9.2.2.2.2 == 22)) && (v10.2 == 22)) && ((IntKind.i64.wrap ((v8.1.length : Int) + (v10.1.length : Int))) == 0)) && ((v9.1 == 0) && ((v9.2.1 == 0) && ((v9.2.2.1 == 0) && (v9.2.2.2.1 == 0)))))
                              else (r74 a0_0 a0_1 a0_2 a0_3 a1 a2).bind fun v30 =>
                               (r75 a0_0 a0_1 a0_2 a0_3 a1 a2).bind fun v31 =>
                                if (v8.2 == 0) = true → (r76 v8.1 v29.1).isSome = true then
                                 if (((((v8.2 == 0) && ((r76 v8.1 v29.1).getD default)) && (v9.2.2.2.2 == 0)) && ((v9.1 == v30.1) && ((v9.2.1 == v30.2.1) && ((v9.2.2.1 == v30.2.2.1) && (v9.2.2.2.1 == v30.2.2.2.1))))) && (v10.2 == 0)) = true → (r34 v10.1 v31.1).isSome = true then
                                  some ((((((v8.2 == 0) && ((r76 v8.1 v29.1).getD default)) && (v9.2.2.2.2 == 0)) && ((v9.1 == v30.1) && ((v9.2.1 == v30.2.1) && ((v9.2.2.1 == v30.2.2.1) && (v9.2.2.2.1 == v30.2.2.2.1))))) && (v10.2 == 0)) && ((r34 v10.1 v31.1).getD default))
                                  else none
                                 else none
                             else if (v28 != 0) = true then
                              some (((((v8.2 == v28) && (v9.2.2.2.2 == v28)) && (v10.2 == v28)) && ((IntKind.i64.wrap ((v8.1.length : Int) + (v10.1.length : Int))) == 0)) && ((v9.1 == 0) && ((v9.2.1 == 0) && ((v9.2.2.1 == 0) && (v9.2.2.2.1 == 0)))))
                              else (r74 a0_0 a0_1 a0_2 a0_3 a1 a2).bind fun v34 =>
                               (r75 a0_0 a0_1 a0_2 a0_3 a1 a2).bind fun v35 =>
                                if (v8.2 == 0) = true → (r76 v8.1 v29.1).isSome = true then
                                 if (((((v8.2 == 0) && ((r76 v8.1 v29.1).getD default)) && (v9.2.2.2.2 == 0)) && ((v9.1 == v34.1) && ((v9.2.1 == v34.2.1) && ((v9.2.2.1 == v34.2.2.1) && (v9.2.2.2.1 == v34.2.2.2.1))))) && (v10.2 == 0)) = true → (r34 v10.1 v35.1).isSome = true then
                                  some ((((((v8.2 == 0) && ((r76 v8.1 v29.1).getD default)) && (v9.2.2.2.2 == 0)) && ((v9.1 == v34.1) && ((v9.2.1 == v34.2.1) && ((v9.2.2.1 == v34.2.2.1) && (v9.2.2.2.1 == v34.2.2.2.1))))) && (v10.2 == 0)) && ((r34 v10.1 v35.1).getD default))
                                  else none
                                 else none
                           else if (v28 != 0) = true then
                            some (((((v8.2 == v28) && (v9.2.2.2.2 == v28)) && (v10.2 == v28)) && ((IntKind.i64.wrap ((v8.1.length : Int) + (v10.1.length : Int))) == 0)) && ((v9.1 == 0) && ((v9.2.1 == 0) && ((v9.2.2.1 == 0) && (v9.2.2.2.1 == 0)))))
                            else (r74 a0_0 a0_1 a0_2 a0_3 a1 a2).bind fun v38 =>
                             (r75 a0_0 a0_1 a0_2 a0_3 a1 a2).bind fun v39 =>
                              if (v8.2 == 0) = true → (r76 v8.1 []).isSome = true then
                               if (((((v8.2 == 0) && ((r76 v8.1 []).getD default)) && (v9.2.2.2.2 == 0)) && ((v9.1 == v38.1) && ((v9.2.1 == v38.2.1) && ((v9.2.2.1 == v38.2.2.1) && (v9.2.2.2.1 == v38.2.2.2.1))))) && (v10.2 == 0)) = true → (r34 v10.1 v39.1).isSome = true then
                                some ((((((v8.2 == 0) && ((r76 v8.1 []).getD default)) && (v9.2.2.2.2 == 0)) && ((v9.1 == v38.1) && ((v9.2.1 == v38.2.1) && ((v9.2.2.1 == v38.2.2.1) && (v9.2.2.2.1 == v38.2.2.2.1))))) && (v10.2 == 0)) && ((r34 v10.1 v39.1).getD default))
                                else none
                               else none
                        else none
          else none
         else (r18 a0_0 a0_1 a0_2 a0_3).bind fun v44 =>
          (r19 a1).bind fun v45 =>
           (r65 [] 0).bind fun v46 =>
            (r64 v44.1 v44.2.1 v44.2.2.1 v44.2.2.2 v45 v46.1 v46.2).bind fun v47 =>
             (r67 a2).bind fun v48 =>
              (r66 v44.1 v44.2.1 v44.2.2.1 v44.2.2.2 v45 v48).bind fun v49 =>
               (r68 v44.1 v44.2.1 v44.2.2.1 v44.2.2.2 v45 v48).bind fun v50 =>
                (r69 v44.1 v44.2.1 v44.2.2.1 v44.2.2.2 v45 v48).bind fun v51 =>
                 (r21 a0_0 a0_1 a0_2 a0_3 a1).bind fun v52 =>
                  if (v52 != 0) = true then
                   some ((((((v47.2 == v52) && (v49.2 == v52)) && (v50.2.2.2.2 == v52)) && (v51.2 == v52)) && ((IntKind.i64.wrap ((IntKind.i64.wrap ((v47.1.length : Int) + (v49.1.length : Int))) + (v51.1.length : Int))) == 0)) && ((v50.1 == 0) && ((v50.2.1 == 0) && ((v50.2.2.1 == 0) && (v50.2.2.2.1 == 0)))))
                   else (r70 a0_0 a0_1 a0_2 a0_3 [] 0).bind fun v53 =>
                    if (v53 != 0) = true then
                     if ((v47.2 != v53) || ((v47.1.length : Int) != 0)) = true then
                      some false
                      else (r72 a0_0 a0_1 a0_2 a0_3 a2).bind fun v54 =>
                       if (v54 == 0) = true then
                        (r73 a0_0 a0_1 a0_2 a0_3 a1 a2).bind fun v55 =>
                         if (!v55.2.2) = true then
                          if (22 != 0) = true then
                           some (((((v49.2 == 22) && (v50.2.2.2.2 == 22)) && (v51.2 == 22)) && ((IntKind.i64.wrap ((v49.1.length : Int) + (v51.1.length : Int))) == 0)) && ((v50.1 == 0) && ((v50.2.1 == 0) && ((v50.2.2.1 == 0) && (v50.2.2.2.1 == 0)))))
                           else (r74 a0_0 a0_1 a0_2 a0_3 a1 a2).bind fun v56 =>
                            (r75 a0_0 a0_1 a0_2 a0_3 a1 a2).bind fun v57 =>
                             if (v49.2 == 0) = true → (r76 v49.1 v55.1).isSome = true then
                              if (((((v49.2 == 0) && ((r76 v49.1 v55.1).getD default)) && (v50.2.2.2.2 == 0)) && ((v50.1 == v56.1) && ((v50.2.1 == v56.2.1) && ((v50.2.2.1 == v56.2.2.1) && (v50.2.2.2.1 == v56.2.2.2.1))))) && (v51.2 == 0)) = true → (r34 v51.1 v57.1).isSome = true then
                               some ((((((v49.2 == 0) && ((r76 v49.1 v55.1).getD default)) && (v50.2.2.2.2 == 0)) && ((v50.1 == v56.1) && ((v50.2.1 == v56.2.1) && ((v50.2.2.1 == v56.2.2.1) && (v50.2.2.2.1 == v56.2.2.2.1))))) && (v51.2 == 0)) && ((r34 v51.1 v57.1).getD default))
                               else none
                              else none
                          else if (v54 != 0) = true then
                           some (((((v49.2 == v54) && (v50.2.2.2.2 == v54)) && (v51.2 == v54)) && ((IntKind.i64.wrap ((v49.1.length : Int) + (v51.1.length : Int))) == 0)) && ((v50.1 == 0) && ((v50.2.1 == 0) && ((v50.2.2.1 == 0) && (v50.2.2.2.1 == 0)))))
                           else (r74 a0_0 a0_1 a0_2 a0_3 a1 a2).bind fun v60 =>
                            (r75 a0_0 a0_1 a0_2 a0_3 a1 a2).bind fun v61 =>
                             if (v49.2 == 0) = true → (r76 v49.1 v55.1).isSome = true then
                              if (((((v49.2 == 0) && ((r76 v49.1 v55.1).getD default)) && (v50.2.2.2.2 == 0)) && ((v50.1 == v60.1) && ((v50.2.1 == v60.2.1) && ((v50.2.2.1 == v60.2.2.1) && (v50.2.2.2.1 == v60.2.2.2.1))))) && (v51.2 == 0)) = true → (r34 v51.1 v61.1).isSome = true then
                               some ((((((v49.2 == 0) && ((r76 v49.1 v55.1).getD default)) && (v50.2.2.2.2 == 0)) && ((v50.1 == v60.1) && ((v50.2.1 == v60.2.1) && ((v50.2.2.1 == v60.2.2.1) && (v50.2.2.2.1 == v60.2.2.2.1))))) && (v51.2 == 0)) && ((r34 v51.1 v61.1).getD default))
                               else none
                              else none
                        else if (v54 != 0) = true then
                         some (((((v49.2 == v54) && (v50.2.2.2.2 == v54)) && (v51.2 == v54)) && ((IntKind.i64.wrap ((v49.1.length : Int) + (v51.1.length : Int))) == 0)) && ((v50.1 == 0) && ((v50.2.1 == 0) && ((v50.2.2.1 == 0) && (v50.2.2.2.1 == 0)))))
                         else (r74 a0_0 a0_1 a0_2 a0_3 a1 a2).bind fun v64 =>
                          (r75 a0_0 a0_1 a0_2 a0_3 a1 a2).bind fun v65 =>
                           if (v49.2 == 0) = true → (r76 v49.1 []).isSome = true then
                            if (((((v49.2 == 0) && ((r76 v49.1 []).getD default)) && (v50.2.2.2.2 == 0)) && ((v50.1 == v64.1) && ((v50.2.1 == v64.2.1) && ((v50.2.2.1 == v64.2.2.1) && (v50.2.2.2.1 == v64.2.2.2.1))))) && (v51.2 == 0)) = true → (r34 v51.1 v65.1).isSome = true then
                             some ((((((v49.2 == 0) && ((r76 v49.1 []).getD default)) && (v50.2.2.2.2 == 0)) && ((v50.1 == v64.1) && ((v50.2.1 == v64.2.1) && ((v50.2.2.1 == v64.2.2.1) && (v50.2.2.2.1 == v64.2.2.2.1))))) && (v51.2 == 0)) && ((r34 v51.1 v65.1).getD default))
                             else none
                            else none
                     else (r71 a0_0 a0_1 a0_2 a0_3 a1 [] 0).bind fun v68 =>
                      if (((!((!v68.2.2) && ((v47.2 != 22) || ((v47.1.length : Int) != 0)))) && v68.2.2) && (!(v47.2 != 0))) = true → (r34 v47.1 v68.1).isSome = true then
                       if (((!v68.2.2) && ((v47.2 != 22) || ((v47.1.length : Int) != 0))) || (v68.2.2 && ((v47.2 != 0) || (!((r34 v47.1 v68.1).getD default))))) = true then
                        some false
                        else (r72 a0_0 a0_1 a0_2 a0_3 a2).bind fun v69 =>
                         if (v69 == 0) = true then
                          (r73 a0_0 a0_1 a0_2 a0_3 a1 a2).bind fun v70 =>
                           if (!v70.2.2) = true then
                            if (22 != 0) = true then
                             some (((((v49.2 == 22) && (v50.2.2.2.2 == 22)) && (v51.2 == 22)) && ((IntKind.i64.wrap ((v49.1.length : Int) + (v51.1.length : Int))) == 0)) && ((v50.1 == 0) && ((v50.2.1 == 0) && ((v50.2.2.1 == 0) && (v50.2.2.2.1 == 0)))))
                             else (r74 a0_0 a0_1 a0_2 a0_3 a1 a2).bind fun v71 =>
                              (r75 a0_0 a0_1 a0_2 a0_3 a1 a2).bind fun v72 =>
                               if (v49.2 == 0) = true → (r76 v49.1 v70.1).isSome = true then
                                if (((((v49.2 == 0) && ((r76 v49.1 v70.1).getD default)) && (v50.2.2.2.2 == 0)) && ((v50.1 == v71.1) && ((v50.2.1 == v71.2.1) && ((v50.2.2.1 == v71.2.2.1) && (v50.2.2.2.1 == v71.2.2.2.1))))) && (v51.2 == 0)) = true → (r34 v51.1 v72.1).isSome = true then
                                 some ((((((v49.2 == 0) && ((r76 v49.1 v70.1).getD default)) && (v50.2.2.2.2 == 0)) && ((v50.1 == v71.1) && ((v50.2.1 == v71.2.1) && ((v50.2.2.1 == v71.2.2.1) && (v50.2.2.2.1 == v71.2.2.2.1))))) && (v51.2 == 0)) && ((r34 v51.1 v72.1).getD default))
                                 else none
                                else none
                            else if (v69 != 0) = true then
                             some (((((v49.2 == v69) && (v50.2.2.2.2 == v69)) && (v51.2 == v69)) && ((IntKind.i64.wrap ((v49.1.length : Int) + (v51.1.length : Int))) == 0)) && ((v50.1 == 0) && ((v50.2.1 == 0) && ((v50.2.2.1 == 0) && (v50.2.2.2.1 == 0)))))
                             else (r74 a0_0 a0_1 a0_2 a0_3 a1 a2).bind fun v75 =>
                              (r75 a0_0 a0_1 a0_2 a0_3 a1 a2).bind fun v76 =>
                               if (v49.2 == 0) = true → (r76 v49.1 v70.1).isSome = true then
                                if (((((v49.2 == 0) && ((r76 v49.1 v70.1).getD default)) && (v50.2.2.2.2 == 0)) && ((v50.1 == v75.1) && ((v50.2.1 == v75.2.1) && ((v50.2.2.1 == v75.2.2.1) && (v50.2.2.2.1 == v75.2.2.2.1))))) && (v51.2 == 0)) = true → (r34 v51.1 v76.1).isSome = true then
                                 some ((((((v49.2 == 0) && ((r76 v49.1 v70.1).getD default)) && (v50.2.2.2.2 == 0)) && ((v50.1 == v75.1) && ((v50.2.1 == v75.2.1) && ((v50.2.2.1 == v75.2.2.1) && (v50.2.2.2.1 == v75.2.2.2.1))))) && (v51.2 == 0)) && ((r34 v51.1 v76.1).getD default))
                                 else none
                                else none
                          else if (v69 != 0) = true then
                           some (((((v49.2 == v69) && (v50.2.2.2.2 == v69)) && (v51.2 == v69)) && ((IntKind.i64.wrap ((v49.1.length : Int) + (v51.1.length : Int))) == 0)) && ((v50.1 == 0) && ((v50.2.1 == 0) && ((v50.2.2.1 == 0) && (v50.2.2.2.1 == 0)))))
                           else (r74 a0_0 a0_1 a0_2 a0_3 a1 a2).bind fun v79 =>
                            (r75 a0_0 a0_1 a0_2 a0_3 a1 a2).bind fun v80 =>
                             if (v49.2 == 0) = true → (r76 v49.1 []).isSome = true then
                              if (((((v49.2 == 0) && ((r76 v49.1 []).getD default)) && (v50.2.2.2.2 == 0)) && ((v50.1 == v79.1) && ((v50.2.1 == v79.2.1) && ((v50.2.2.1 == v79.2.2.1) && (v50.2.2.2.1 == v79.2.2.2.1))))) && (v51.2 == 0)) = true → (r34 v51.1 v80.1).isSome = true then
                               some ((((((v49.2 == 0) && ((r76 v49.1 []).getD default)) && (v50.2.2.2.2 == 0)) && ((v50.1 == v79.1) && ((v50.2.1 == v79.2.1) && ((v50.2.2.1 == v79.2.2.1) && (v50.2.2.2.1 == v79.2.2.2.1))))) && (v51.2 == 0)) && ((r34 v51.1 v80.1).getD default))
                               else none
                              else none
                       else none
       else none
      else none
def T8 : TSpec (Int × Int × (List (Int × Int)) × (List ((List (Int × Int)))) × (List (Int)) × (List ((List (Int)) × Int))) where
  enc x := [.agg [.int .i64 x.1, .int .i64 x.2.1, encF 2 d_II x.2.2.1, encF 1 d_LIIE x.2.2.2.1], .c (encF 1 d_I x.2.2.2.2.1), .c (encF 2 d_LIEI x.2.2.2.2.2)]
  dec a := (dInt (aCell a 0 0), dInt (aCell a 0 1), decF g_II (aCell a 0 2), decF g_LIIE (aCell a 0 3), decF g_I (aCell a 1 0), decF g_LIEI (aCell a 2 0))
  pre x := (r8 x.1 x.2.1 x.2.2.1 x.2.2.2.1 x.2.2.2.2.1 x.2.2.2.2.2).isSome = true
  res x := [.c (.d (.bool ((r8 x.1 x.2.1 x.2.2.1 x.2.2.2.1 x.2.2.2.2.1 x.2.2.2.2.2).getD default)))]
  al := false
def tb8 : Fns := lk [(14, T14.sp), (15, T15.sp), (16, T16.sp), (18, T18.sp), (19, T19.sp), (21, T21.sp), (34, T34.sp), (63, T63.sp), (64, T64.sp), (65, T65.sp), (66, T66.sp), (67, T67.sp), (68, T68.sp), (69, T69.sp), (70, T70.sp), (71, T71.sp), (72, T72.sp), (73, T73.sp), (74, T74.sp), (75, T75.sp), (76, T76.sp)]
theorem tb8_ok : FnsOk Try.prog tb8 := .cons f14 (.cons f15 (.cons f16 (.cons f18 (.cons f19 (.cons f21 (.cons f34 (.cons f63 (.cons f64 (.cons f65 (.cons f66 (.cons f67 (.cons f68 (.cons f69 (.cons f70 (.cons f71 (.cons f72 (.cons f73 (.cons f74 (.cons f75 (.cons f76 (FnsOk.nil)))))))))))))))))))))
theorem tb8_14 : tb8 14 = some T14.sp := rfl
theorem tb8_15 : tb8 15 = some T15.sp := rfl
theorem tb8_16 : tb8 16 = some T16.sp := rfl
theorem tb8_18 : tb8 18 = some T18.sp := rfl
theorem tb8_19 : tb8 19 = some T19.sp := rfl
theorem tb8_21 : tb8 21 = some T21.sp := rfl
theorem tb8_34 : tb8 34 = some T34.sp := rfl
theorem tb8_63 : tb8 63 = some T63.sp := rfl
theorem tb8_64 : tb8 64 = some T64.sp := rfl
theorem tb8_65 : tb8 65 = some T65.sp := rfl
theorem tb8_66 : tb8 66 = some T66.sp := rfl
theorem tb8_67 : tb8 67 = some T67.sp := rfl
theorem tb8_68 : tb8 68 = some T68.sp := rfl
theorem tb8_69 : tb8 69 = some T69.sp := rfl
theorem tb8_70 : tb8 70 = some T70.sp := rfl
theorem tb8_71 : tb8 71 = some T71.sp := rfl
theorem tb8_72 : tb8 72 = some T72.sp := rfl
theorem tb8_73 : tb8 73 = some T73.sp := rfl
theorem tb8_74 : tb8 74 = some T74.sp := rfl
theorem tb8_75 : tb8 75 = some T75.sp := rfl
theorem tb8_76 : tb8 76 = some T76.sp := rfl
theorem v8 : Valid Try.prog 8 T8.sp := by
  refine valid_t (fn := Try.f8) (n := 257) ty_ok tb8_ok Try.func8 rfl Try.ntmps8 ?_
  rintro ⟨a0_0, a0_1, a0_2, a0_3, a1, a2⟩ hx
  obtain ⟨r, hr⟩ := Option.isSome_iff_exists.1 (show (r8 a0_0 a0_1 a0_2 a0_3 a1 a2).isSome = true from hx)
  have hres : T8.res (a0_0, a0_1, a0_2, a0_3, a1, a2) = [.c (.d (.bool r))] := by simp only [T8, hr, Option.getD_some]
  refine ⟨Nat.le_of_ble_eq_true rfl, fun stop S => ?_⟩
  rw [hres] at S
  unfold r8 at hr
  refine S.goB [] 1000 ?_
  simp (maxSteps := 10000000) only [go_sem, tb8_14, T14, tb8_15, T15, tb8_16, T16, tb8_18, T18, tb8_19, T19, tb8_21, T21, tb8_34, T34, tb8_63, T63, tb8_64, T64, tb8_65, T65, tb8_66, T66, tb8_67, T67, tb8_68, T68, tb8_69, T69, tb8_70, T70, tb8_71, T71, tb8_72, T72, tb8_73, T73, tb8_74, T74, tb8_75, T75, tb8_76, T76, T8, Option.map_some, Int.reduceToNat, Nat.reduceEqDiff, Nat.reduceLT, Nat.reduceAdd, Nat.reduceMul, Nat.reduceSub, Nat.reduceLeDiff, reduceIte, reduceCtorEq, Try.results8]
  obtain ⟨v1, hv1, hr⟩ := of_bind0 hr
  try simp only [hv1, Option.getD_some, Option.isSome_some, true_and, and_assoc]
  repeat (refine And.intro ?_ ?_; focus (first | assumption | decide +kernel | (show _ ≠ _; omega) | ((fail_if_success intro _); omega) | (show Eqv _ _; (simp (maxDischargeDepth := 8) [go_sem]))))
  refine ⟨fun hc => ?_, fun hc => ?_⟩
  · rw [if_pos (by first | exact hc | (rw [hc]; rfl) | (revert hc; simp; done) | simpa using hc | (simp at hc ⊢; omega) | simp_all)] at hr
    repeat (refine And.intro ?_ ?_; focus (first | assumption | decide +kernel | (show _ ≠ _; omega) | ((fail_if_success intro _); omega) | (show Eqv _ _; (simp (maxDischargeDepth := 8) [go_sem]))))
    obtain rfl := Option.some.inj hr
    (simp (maxDischargeDepth := 8) [go_sem])
  · rw [if_neg (by first | exact hc | (rw [hc]; rfl) | (revert hc; simp; done) | simpa using hc | (simp at hc ⊢; omega) | simp_all)] at hr
    obtain ⟨v2, hv2, hr⟩ := of_bind0 hr
    obtain ⟨hg84, hr⟩ := of_guard0 hr
    obtain ⟨hg85, hr⟩ := of_guard0 hr
    try simp only [hv2, Option.getD_some, Option.isSome_some, true_and, and_assoc]
    repeat (refine And.intro ?_ ?_; focus (first | assumption | decide +kernel | (show _ ≠ _; omega) | ((fail_if_success intro _); omega) | (show Eqv _ _; (simp (maxDischargeDepth := 8) [go_sem])) | (intro hq; first | exact hg84 (by first | exact hq | (rw [hq]; rfl) | simpa using hq) | (have h9 := hg84 (by first | exact hq | (rw [hq]; rfl) | simpa using hq); first | omega | (simpa using h9)) | exact hg85 (by first | exact hq | (rw [hq]; rfl) | simpa using hq) | (have h9 := hg85 (by first | exact hq | (rw [hq]; rfl) | simpa using hq); first | omega | (simpa using h9)) | exact hq.1 | exact hq) | (intro hq; exact ⟨hq, fun h2 => by rw [hq]; simp [h2]⟩) | (simp +contextual; done)))
    refine ⟨fun hc => ?_, fun hc => ?_⟩
    · rw [if_pos (by first | exact hc | (rw [hc]; rfl) | (revert hc; simp; done) | simpa using hc | (simp at hc ⊢; omega) | simp_all)] at hr
      repeat (refine And.intro ?_ ?_; focus (first | assumption | decide +kernel | (show _ ≠ _; omega) | ((fail_if_success intro _); omega) | (show Eqv _ _; (simp (maxDischargeDepth := 8) [go_sem]))))
      obtain rfl := Option.some.inj hr
      (simp (maxDischargeDepth := 8) [go_sem])
    · rw [if_neg (by first | exact hc | (rw [hc]; rfl) | (revert hc; simp; done) | simpa using hc | (simp at hc ⊢; omega) | simp_all)] at hr
      repeat (refine And.intro ?_ ?_; focus (first | assumption | decide +kernel | (show _ ≠ _; omega) | ((fail_if_success intro _); omega) | (show Eqv _ _; (simp (maxDischargeDepth := 8) [go_sem]))))
      refine ⟨fun hc => ?_, fun hc => ?_⟩
      · rw [if_pos (by first | exact hc | (rw [hc]; rfl) | (revert hc; simp; done) | simpa using hc | (simp at hc ⊢; omega) | simp_all)] at hr
        obtain ⟨hg43, hr⟩ := of_guard0 hr
        obtain ⟨v3, hv3, hr⟩ := of_bind0 hr
        obtain ⟨v4, hv4, hr⟩ := of_bind0 hr
        obtain ⟨v5, hv5, hr⟩ := of_bind0 hr
        obtain ⟨v6, hv6, hr⟩ := of_bind0 hr
        obtain ⟨v7, hv7, hr⟩ := of_bind0 hr
        obtain ⟨v8, hv8, hr⟩ := of_bind0 hr
        obtain ⟨v9, hv9, hr⟩ := of_bind0 hr
        obtain ⟨v10, hv10, hr⟩ := of_bind0 hr
        obtain ⟨v11, hv11, hr⟩ := of_bind0 hr
        try simp only [hv3, hv4, hv5, hv6, hv7, hv8, hv9, hv10, hv11, Option.getD_some, Option.isSome_some, true_and, and_assoc]
        repeat (refine And.intro ?_ ?_; focus (first | assumption | decide +kernel | (show _ ≠ _; omega) | ((fail_if_success intro _); omega) | (show Eqv _ _; (simp (maxDischargeDepth := 8) [go_sem]))))
        refine ⟨fun hc => ?_, fun hc => ?_⟩
        · rw [if_pos (by first | exact hc | (rw [hc]; rfl) | (revert hc; simp; done) | simpa using hc | (simp at hc ⊢; omega) | simp_all)] at hr
          repeat (refine And.intro ?_ ?_; focus (first | assumption | decide +kernel | (show _ ≠ _; omega) | ((fail_if_success intro _); omega) | (show Eqv _ _; (simp (maxDischargeDepth := 8) [go_sem])) | (intro hq; first | exact hq.1 | exact hq) | (intro hq; exact ⟨hq, fun h2 => by rw [hq]; simp [h2]⟩) | (simp +contextual; done)))
          obtain rfl := Option.some.inj hr
          (simp (maxDischargeDepth := 8) [go_sem])
        · rw [if_neg (by first | exact hc | (rw [hc]; rfl) | (revert hc; simp; done) | simpa using hc | (simp at hc ⊢; omega) | simp_all)] at hr
          obtain ⟨v12, hv12, hr⟩ := of_bind0 hr
          try simp only [hv12, Option.getD_some, Option.isSome_some, true_and, and_assoc]
          repeat (refine And.intro ?_ ?_; focus (first | assumption | decide +kernel | (show _ ≠ _; omega) | ((fail_if_success intro _); omega) | (show Eqv _ _; (simp (maxDischargeDepth := 8) [go_sem]))))
          refine ⟨fun hc => ?_, fun hc => ?_⟩
          · rw [if_pos (by first | exact hc | (rw [hc]; rfl) | (revert hc; simp; done) | simpa using hc | (simp at hc ⊢; omega) | simp_all)] at hr
            repeat (refine And.intro ?_ ?_; focus (first | assumption | decide +kernel | (show _ ≠ _; omega) | ((fail_if_success intro _); omega) | (show Eqv _ _; (simp (maxDischargeDepth := 8) [go_sem])) | (intro hq; first | exact hq.1 | exact hq) | (intro hq; exact ⟨hq, fun h2 => by rw [hq]; simp [h2]⟩) | (simp +contextual; done)))
            refine ⟨fun hc => ?_, fun hc => ?_⟩
            · rw [if_pos (by first | exact hc | (rw [hc]; rfl) | (revert hc; simp; done) | simpa using hc | (simp at hc ⊢; omega) | simp_all)] at hr
              repeat (refine And.intro ?_ ?_; focus (first | assumption | decide +kernel | (show _ ≠ _; omega) | ((fail_if_success intro _); omega) | (show Eqv _ _; (simp (maxDischargeDepth := 8) [go_sem]))))
              obtain rfl := Option.some.inj hr
              (simp (maxDischargeDepth := 8) [go_sem])
            · rw [if_neg (by first | exact hc | (rw [hc]; rfl) | (revert hc; simp; done) | simpa using hc | (simp at hc ⊢; omega) | simp_all)] at hr
              obtain ⟨v13, hv13, hr⟩ := of_bind0 hr
              try simp only [hv13, Option.getD_some, Option.isSome_some, true_and, and_assoc]
              repeat (refine And.intro ?_ ?_; focus (first | assumption | decide +kernel | (show _ ≠ _; omega) | ((fail_if_success intro _); omega) | (show Eqv _ _; (simp (maxDischargeDepth := 8) [go_sem]))))
              refine ⟨fun hc => ?_, fun hc => ?_⟩
              · rw [if_pos (by first | exact hc | (rw [hc]; rfl) | (revert hc; simp; done) | simpa using hc | (simp at hc ⊢; omega) | simp_all)] at hr
                obtain ⟨v14, hv14, hr⟩ := of_bind0 hr
                try simp only [hv14, Option.getD_some, Option.isSome_some, true_and, and_assoc]
                repeat (refine And.intro ?_ ?_; focus (first | assumption | decide +kernel | (show _ ≠ _; omega) | ((fail_if_success intro _); omega) | (show Eqv _ _; (simp (maxDischargeDepth := 8) [go_sem]))))
                refine ⟨fun hc => ?_, fun hc => ?_⟩
                · rw [if_pos (by first | exact hc | (rw [hc]; rfl) | (revert hc; simp; done) | simpa using hc | (simp at hc ⊢; omega) | simp_all)] at hr
                  repeat (refine And.intro ?_ ?_; focus (first | assumption | decide +kernel | (show _ ≠ _; omega) | ((fail_if_success intro _); omega) | (show Eqv _ _; (simp (maxDischargeDepth := 8) [go_sem]))))
                  refine ⟨fun hc => ?_, fun hc => ?_⟩
                  · rw [if_pos (by first | exact hc | (rw [hc]; rfl) | (revert hc; simp; done) | simpa using hc | (simp at hc ⊢; omega) | simp_all)] at hr
                    repeat (refine And.intro ?_ ?_; focus (first | assumption | decide +kernel | (show _ ≠ _; omega) | ((fail_if_success intro _); omega) | (show Eqv _ _; (simp (maxDischargeDepth := 8) [go_sem])) | (intro hq; first | exact hq.1 | exact hq) | (intro hq; exact ⟨hq, fun h2 => by rw [hq]; simp [h2]⟩) | (simp +contextual; done)))
                    obtain rfl := Option.some.inj hr
                    (simp (maxDischargeDepth := 8) [go_sem])
                  · rw [if_neg (by first | exact hc | (rw [hc]; rfl) | (revert hc; simp; done) | simpa using hc | (simp at hc ⊢; omega) | simp_all)] at hr
                    obtain ⟨v15, hv15, hr⟩ := of_bind0 hr
                    obtain ⟨v16, hv16, hr⟩ := of_bind0 hr
                    obtain ⟨hg17, hr⟩ := of_guard0 hr
                    obtain ⟨hg18, hr⟩ := of_guard0 hr
                    try simp only [hv15, hv16, Option.getD_some, Option.isSome_some, true_and, and_assoc]
                    repeat (refine And.intro ?_ ?_; focus (first | assumption | decide +kernel | (show _ ≠ _; omega) | ((fail_if_success intro _); omega) | (show Eqv _ _; (simp (maxDischargeDepth := 8) [go_sem])) | (intro hq; first | exact hg17 (by first | exact hq | (rw [hq]; rfl) | simpa using hq) | (have h9 := hg17 (by first | exact hq | (rw [hq]; rfl) | simpa using hq); first | omega | (simpa using h9)) | exact hg18 (by first | exact hq | (rw [hq]; rfl) | simpa using hq) | (have h9 := hg18 (by first | exact hq | (rw [hq]; rfl) | simpa using hq); first | omega | (simpa using h9)) | exact hq.1 | exact hq) | (intro hq; exact ⟨hq, fun h2 => by rw [hq]; simp [h2]⟩) | (simp +contextual; done)))
                    obtain rfl := Option.some.inj hr
                    (simp (maxDischargeDepth := 8) [go_sem])
                · rw [if_neg (by first | exact hc | (rw [hc]; rfl) | (revert hc; simp; done) | simpa using hc | (simp at hc ⊢; omega) | simp_all)] at hr
                  repeat (refine And.intro ?_ ?_; focus (first | assumption | decide +kernel | (show _ ≠ _; omega) | ((fail_if_success intro _); omega) | (show Eqv _ _; (simp (maxDischargeDepth := 8) [go_sem]))))
                  refine ⟨fun hc => ?_, fun hc => ?_⟩
                  · rw [if_pos (by first | exact hc | (rw [hc]; rfl) | (revert hc; simp; done) | simpa using hc | (simp at hc ⊢; omega) | simp_all)] at hr
                    repeat (refine And.intro ?_ ?_; focus (first | assumption | decide +kernel | (show _ ≠ _; omega) | ((fail_if_success intro _); omega) | (show Eqv _ _; (simp (maxDischargeDepth := 8) [go_sem])) | (intro hq; first | exact hq.1 | exact hq) | (intro hq; exact ⟨hq, fun h2 => by rw [hq]; simp [h2]⟩) | (simp +contextual; done)))
                    obtain rfl := Option.some.inj hr
                    (simp (maxDischargeDepth := 8) [go_sem])
                  · rw [if_neg (by first | exact hc | (rw [hc]; rfl) | (revert hc; simp; done) | simpa using hc | (simp at hc ⊢; omega) | simp_all)] at hr
                    obtain ⟨v19, hv19, hr⟩ := of_bind0 hr
                    obtain ⟨v20, hv20, hr⟩ := of_bind0 hr
                    obtain ⟨hg21, hr⟩ := of_guard0 hr
                    obtain ⟨hg22, hr⟩ := of_guard0 hr
                    try simp only [hv19, hv20, Option.getD_some, Option.isSome_some, true_and, and_assoc]
                    repeat (refine And.intro ?_ ?_; focus (first | assumption | decide +kernel | (show _ ≠ _; omega) | ((fail_if_success intro _); omega) | (show Eqv _ _; (simp (maxDischargeDepth := 8) [go_sem])) | (intro hq; first | exact hg21 (by first | exact hq | (rw [hq]; rfl) | simpa using hq) | (have h9 := hg21 (by first | exact hq | (rw [hq]; rfl) | simpa using hq); first | omega | (simpa using h9)) | exact hg22 (by first | exact hq | (rw [hq]; rfl) | simpa using hq) | (have h9 := hg22 (by first | exact hq | (rw [hq]; rfl) | simpa using hq); first | omega | (simpa using h9)) | exact hq.1 | exact hq) | (intro hq; exact ⟨hq, fun h2 => by rw [hq]; simp [h2]⟩) | (simp +contextual; done)))
                    obtain rfl := Option.some.inj hr
                    (simp (maxDischargeDepth := 8) [go_sem])
              · rw [if_neg (by first | exact hc | (rw [hc]; rfl) | (revert hc; simp; done) | simpa using hc | (simp at hc ⊢; omega) | simp_all)] at hr
                repeat (refine And.intro ?_ ?_; focus (first | assumption | decide +kernel | (show _ ≠ _; omega) | ((fail_if_success intro _); omega) | (show Eqv _ _; (simp (maxDischargeDepth := 8) [go_sem]))))
                refine ⟨fun hc => ?_, fun hc => ?_⟩
                · rw [if_pos (by first | exact hc | (rw [hc]; rfl) | (revert hc; simp; done) | simpa using hc | (simp at hc ⊢; omega) | simp_all)] at hr
                  repeat (refine And.intro ?_ ?_; focus (first | assumption | decide +kernel | (show _ ≠ _; omega) | ((fail_if_success intro _); omega) | (show Eqv _ _; (simp (maxDischargeDepth := 8) [go_sem])) | (intro hq; first | exact hq.1 | exact hq) | (intro hq; exact ⟨hq, fun h2 => by rw [hq]; simp [h2]⟩) | (simp +contextual; done)))
                  obtain rfl := Option.some.inj hr
                  (simp (maxDischargeDepth := 8) [go_sem])
                · rw [if_neg (by first | exact hc | (rw [hc]; rfl) | (revert hc; simp; done) | simpa using hc | (simp at hc ⊢; omega) | simp_all)] at hr
                  obtain ⟨v23, hv23, hr⟩ := of_bind0 hr
                  obtain ⟨v24, hv24, hr⟩ := of_bind0 hr
                  obtain ⟨hg25, hr⟩ := of_guard0 hr
                  obtain ⟨hg26, hr⟩ := of_guard0 hr
                  try simp only [hv23, hv24, Option.getD_some, Option.isSome_some, true_and, and_assoc]
                  repeat (refine And.intro ?_ ?_; focus (first | assumption | decide +kernel | (show _ ≠ _; omega) | ((fail_if_success intro _); omega) | (show Eqv _ _; (simp (maxDischargeDepth := 8) [go_sem])) | (intro hq; first | exact hg25 (by first | exact hq | (rw [hq]; rfl) | simpa using hq) | (have h9 := hg25 (by first | exact hq | (rw [hq]; rfl) | simpa using hq); first | omega | (simpa using h9)) | exact hg26 (by first | exact hq | (rw [hq]; rfl) | simpa using hq) | (have h9 := hg26 (by first | exact hq | (rw [hq]; rfl) | simpa using hq); first | omega | (simpa using h9)) | exact hq.1 | exact hq) | (intro hq; exact ⟨hq, fun h2 => by rw [hq]; simp [h2]⟩) | (simp +contextual; done)))
                  obtain rfl := Option.some.inj hr
                  (simp (maxDischargeDepth := 8) [go_sem])
          · rw [if_neg (by first | exact hc | (rw [hc]; rfl) | (revert hc; simp; done) | simpa using hc | (simp at hc ⊢; omega) | simp_all)] at hr
            obtain ⟨v27, hv27, hr⟩ := of_bind0 hr
            obtain ⟨hg42, hr⟩ := of_guard0 hr
            try simp only [hv27, Option.getD_some, Option.isSome_some, true_and, and_assoc]
            repeat (refine And.intro ?_ ?_; focus (first | assumption | decide +kernel | (show _ ≠ _; omega) | ((fail_if_success intro _); omega) | (show Eqv _ _; (simp (maxDischargeDepth := 8) [go_sem])) | (intro hq; first | exact hg42 (by first | exact hq | (rw [hq]; rfl) | simpa using hq) | (have h9 := hg42 (by first | exact hq | (rw [hq]; rfl) | simpa using hq); first | omega | (simpa using h9)) | exact hq.1 | exact hq) | (intro hq; exact ⟨hq, fun h2 => by rw [hq]; simp [h2]⟩) | (simp +contextual; done)))
            refine ⟨fun hc => ?_, fun hc => ?_⟩
            · rw [if_pos (by first | exact hc | (rw [hc]; rfl) | (revert hc; simp; done) | simpa using hc | (simp at hc ⊢; omega) | simp_all)] at hr
              repeat (refine And.intro ?_ ?_; focus (first | assumption | decide +kernel | (show _ ≠ _; omega) | ((fail_if_success intro _); omega) | (show Eqv _ _; (simp (maxDischargeDepth := 8) [go_sem]))))
              obtain rfl := Option.some.inj hr
              (simp (maxDischargeDepth := 8) [go_sem])
            · rw [if_neg (by first | exact hc | (rw [hc]; rfl) | (revert hc; simp; done) | simpa using hc | (simp at hc ⊢; omega) | simp_all)] at hr
              obtain ⟨v28, hv28, hr⟩ := of_bind0 hr
              try simp only [hv28, Option.getD_some, Option.isSome_some, true_and, and_assoc]
              repeat (refine And.intro ?_ ?_; focus (first | assumption | decide +kernel | (show _ ≠ _; omega) | ((fail_if_success intro _); omega) | (show Eqv _ _; (simp (maxDischargeDepth := 8) [go_sem]))))
              refine ⟨fun hc => ?_, fun hc => ?_⟩
              · rw [if_pos (by first | exact hc | (rw [hc]; rfl) | (revert hc; simp; done) | simpa using hc | (simp at hc ⊢; omega) | simp_all)] at hr
                obtain ⟨v29, hv29, hr⟩ := of_bind0 hr
                try simp only [hv29, Option.getD_some, Option.isSome_some, true_and, and_assoc]
                repeat (refine And.intro ?_ ?_; focus (first | assumption | decide +kernel | (show _ ≠ _; omega) | ((fail_if_success intro _); omega) | (show Eqv _ _; (simp (maxDischargeDepth := 8) [go_sem]))))
                refine ⟨fun hc => ?_, fun hc => ?_⟩
                · rw [if_pos (by first | exact hc | (rw [hc]; rfl) | (revert hc; simp; done) | simpa using hc | (simp at hc ⊢; omega) | simp_all)] at hr
                  repeat (refine And.intro ?_ ?_; focus (first | assumption | decide +kernel | (show _ ≠ _; omega) | ((fail_if_success intro _); omega) | (show Eqv _ _; (simp (maxDischargeDepth := 8) [go_sem]))))
                  refine ⟨fun hc => ?_, fun hc => ?_⟩
                  · rw [if_pos (by first | exact hc | (rw [hc]; rfl) | (revert hc; simp; done) | simpa using hc | (simp at hc ⊢; omega) | simp_all)] at hr
                    repeat (refine And.intro ?_ ?_; focus (first | assumption | decide +kernel | (show _ ≠ _; omega) | ((fail_if_success intro _); omega) | (show Eqv _ _; (simp (maxDischargeDepth := 8) [go_sem])) | (intro hq; first | exact hq.1 | exact hq) | (intro hq; exact ⟨hq, fun h2 => by rw [hq]; simp [h2]⟩) | (simp +contextual; done)))
                    obtain rfl := Option.some.inj hr
                    (simp (maxDischargeDepth := 8) [go_sem])
                  · rw [if_neg (by first | exact hc | (rw [hc]; rfl) | (revert hc; simp; done) | simpa using hc | (simp at hc ⊢; omega) | simp_all)] at hr
                    obtain ⟨v30, hv30, hr⟩ := of_bind0 hr
                    obtain ⟨v31, hv31, hr⟩ := of_bind0 hr
                    obtain ⟨hg32, hr⟩ := of_guard0 hr
                    obtain ⟨hg33, hr⟩ := of_guard0 hr
                    try simp only [hv30, hv31, Option.getD_some, Option.isSome_some, true_and, and_assoc]
                    repeat (refine And.intro ?_ ?_; focus (first | assumption | decide +kernel | (show _ ≠ _; omega) | ((fail_if_success intro _); omega) | (show Eqv _ _; (simp (maxDischargeDepth := 8) [go_sem])) | (intro hq; first | exact hg32 (by first | exact hq | (rw [hq]; rfl) | simpa using hq) | (have h9 := hg32 (by first | exact hq | (rw [hq]; rfl) | simpa using hq); first | omega | (simpa using h9)) | exact hg33 (by first | exact hq | (rw [hq]; rfl) | simpa using hq) | (have h9 := hg33 (by first | exact hq | (rw [hq]; rfl) | simpa using hq); first | omega | (simpa using h9)) | exact hq.1 | exact hq) | (intro hq; exact ⟨hq, fun h2 => by rw [hq]; simp [h2]⟩) | (simp +contextual; done)))
                    obtain rfl := Option.some.inj hr
                    (simp (maxDischargeDepth := 8) [go_sem])
                · rw [if_neg (by first | exact hc | (rw [hc]; rfl) | (revert hc; simp; done) | simpa using hc | (simp at hc ⊢; omega) | simp_all)] at hr
                  repeat (refine And.intro ?_ ?_; focus (first | assumption | decide +kernel | (show _ ≠ _; omega) | ((fail_if_success intro _); omega) | (show Eqv _ _; (simp (maxDischargeDepth := 8) [go_sem]))))
                  refine ⟨fun hc => ?_, fun hc => ?_⟩
                  · rw [if_pos (by first | exact hc | (rw [hc]; rfl) | (revert hc; simp; done) | simpa using hc | (simp at hc ⊢; omega) | simp_all)] at hr
                    repeat (refine And.intro ?_ ?_; focus (first | assumption | decide +kernel | (show _ ≠ _; omega) | ((fail_if_success intro _); omega) | (show Eqv _ _; (simp (maxDischargeDepth := 8) [go_sem])) | (intro hq; first | exact hq.1 | exact hq) | (intro hq; exact ⟨hq, fun h2 => by rw [hq]; simp [h2]⟩) | (simp +contextual; done)))
                    obtain rfl := Option.some.inj hr
                    (simp (maxDischargeDepth := 8) [go_sem])
                  · rw [if_neg (by first | exact hc | (rw [hc]; rfl) | (revert hc; simp; done) | simpa using hc | (simp at hc ⊢; omega) | simp_all)] at hr
                    obtain ⟨v34, hv34, hr⟩ := of_bind0 hr
                    obtain ⟨v35, hv35, hr⟩ := of_bind0 hr
                    obtain ⟨hg36, hr⟩ := of_guard0 hr
                    obtain ⟨hg37, hr⟩ := of_guard0 hr
                    try simp only [hv34, hv35, Option.getD_some, Option.isSome_some, true_and, and_assoc]
                    repeat (refine And.intro ?_ ?_; focus (first | assumption | decide +kernel | (show _ ≠ _; omega) | ((fail_if_success intro _); omega) | (show Eqv _ _; (simp (maxDischargeDepth := 8) [go_sem])) | (intro hq; first | exact hg36 (by first | exact hq | (rw [hq]; rfl) | simpa using hq) | (have h9 := hg36 (by first | exact hq | (rw [hq]; rfl) | simpa using hq); first | omega | (simpa using h9)) | exact hg37 (by first | exact hq | (rw [hq]; rfl) | simpa using hq) | (have h9 := hg37 (by first | exact hq | (rw [hq]; rfl) | simpa using hq); first | omega | (simpa using h9)) | exact hq.1 | exact hq) | (intro hq; exact ⟨hq, fun h2 => by rw [hq]; simp [h2]⟩) | (simp +contextual; done)))
                    obtain rfl := Option.some.inj hr
                    (simp (maxDischargeDepth := 8) [go_sem])
              · rw [if_neg (by first | exact hc | (rw [hc]; rfl) | (revert hc; simp; done) | simpa using hc | (simp at hc ⊢; omega) | simp_all)] at hr
                repeat (refine And.intro ?_ ?_; focus (first | assumption | decide +kernel | (show _ ≠ _; omega) | ((fail_if_success intro _); omega) | (show Eqv _ _; (simp (maxDischargeDepth := 8) [go_sem]))))
                refine ⟨fun hc => ?_, fun hc => ?_⟩
                · rw [if_pos (by first | exact hc | (rw [hc]; rfl) | (revert hc; simp; done) | simpa using hc | (simp at hc ⊢; omega) | simp_all)] at hr
                  repeat (refine And.intro ?_ ?_; focus (first | assumption | decide +kernel | (show _ ≠ _; omega) | ((fail_if_success intro _); omega) | (show Eqv _ _; (simp (maxDischargeDepth := 8) [go_sem])) | (intro hq; first | exact hq.1 | exact hq) | (intro hq; exact ⟨hq, fun h2 => by rw [hq]; simp [h2]⟩) | (simp +contextual; done)))
                  obtain rfl := Option.some.inj hr
                  (simp (maxDischargeDepth := 8) [go_sem])
                · rw [if_neg (by first | exact hc | (rw [hc]; rfl) | (revert hc; simp; done) | simpa using hc | (simp at hc ⊢; omega) | simp_all)] at hr
                  obtain ⟨v38, hv38, hr⟩ := of_bind0 hr
                  obtain ⟨v39, hv39, hr⟩ := of_bind0 hr
                  obtain ⟨hg40, hr⟩ := of_guard0 hr
                  obtain ⟨hg41, hr⟩ := of_guard0 hr
                  try simp only [hv38, hv39, Option.getD_some, Option.isSome_some, true_and, and_assoc]
                  repeat (refine And.intro ?_ ?_; focus (first | assumption | decide +kernel | (show _ ≠ _; omega) | ((fail_if_success intro _); omega) | (show Eqv _ _; (simp (maxDischargeDepth := 8) [go_sem])) | (intro hq; first | exact hg40 (by first | exact hq | (rw [hq]; rfl) | simpa using hq) | (have h9 := hg40 (by first | exact hq | (rw [hq]; rfl) | simpa using hq); first | omega | (simpa using h9)) | exact hg41 (by first | exact hq | (rw [hq]; rfl) | simpa using hq) | (have h9 := hg41 (by first | exact hq | (rw [hq]; rfl) | simpa using hq); first | omega | (simpa using h9)) | exact hq.1 | exact hq) | (intro hq; exact ⟨hq, fun h2 => by rw [hq]; simp [h2]⟩) | (simp +contextual; done)))
                  obtain rfl := Option.some.inj hr
                  (simp (maxDischargeDepth := 8) [go_sem])
      · rw [if_neg (by first | exact hc | (rw [hc]; rfl) | (revert hc; simp; done) | simpa using hc | (simp at hc ⊢; omega) | simp_all)] at hr
        obtain ⟨v44, hv44, hr⟩ := of_bind0 hr
        obtain ⟨v45, hv45, hr⟩ := of_bind0 hr
        obtain ⟨v46, hv46, hr⟩ := of_bind0 hr
        obtain ⟨v47, hv47, hr⟩ := of_bind0 hr
        obtain ⟨v48, hv48, hr⟩ := of_bind0 hr
        obtain ⟨v49, hv49, hr⟩ := of_bind0 hr
        obtain ⟨v50, hv50, hr⟩ := of_bind0 hr
        obtain ⟨v51, hv51, hr⟩ := of_bind0 hr
        obtain ⟨v52, hv52, hr⟩ := of_bind0 hr
        try simp only [hv44, hv45, hv46, hv47, hv48, hv49, hv50, hv51, hv52, Option.getD_some, Option.isSome_some, true_and, and_assoc]
        repeat (refine And.intro ?_ ?_; focus (first | assumption | decide +kernel | (show _ ≠ _; omega) | ((fail_if_success intro _); omega) | (show Eqv _ _; (simp (maxDischargeDepth := 8) [go_sem]))))
        refine ⟨fun hc => ?_, fun hc => ?_⟩
        · rw [if_pos (by first | exact hc | (rw [hc]; rfl) | (revert hc; simp; done) | simpa using hc | (simp at hc ⊢; omega) | simp_all)] at hr
          repeat (refine And.intro ?_ ?_; focus (first | assumption | decide +kernel | (show _ ≠ _; omega) | ((fail_if_success intro _); omega) | (show Eqv _ _; (simp (maxDischargeDepth := 8) [go_sem])) | (intro hq; first | exact hq.1 | exact hq) | (intro hq; exact ⟨hq, fun h2 => by rw [hq]; simp [h2]⟩) | (simp +contextual; done)))
          obtain rfl := Option.some.inj hr
          (simp (maxDischargeDepth := 8) [go_sem])
        · rw [if_neg (by first | exact hc | (rw [hc]; rfl) | (revert hc; simp; done) | simpa using hc | (simp at hc ⊢; omega) | simp_all)] at hr
          obtain ⟨v53, hv53, hr⟩ := of_bind0 hr
          try simp only [hv53, Option.getD_some, Option.isSome_some, true_and, and_assoc]
          repeat (refine And.intro ?_ ?_; focus (first | assumption | decide +kernel | (show _ ≠ _; omega) | ((fail_if_success intro _); omega) | (show Eqv _ _; (simp (maxDischargeDepth := 8) [go_sem]))))
          refine ⟨fun hc => ?_, fun hc => ?_⟩
          · rw [if_pos (by first | exact hc | (rw [hc]; rfl) | (revert hc; simp; done) | simpa using hc | (simp at hc ⊢; omega) | simp_all)] at hr
            repeat (refine And.intro ?_ ?_; focus (first | assumption | decide +kernel | (show _ ≠ _; omega) | ((fail_if_success intro _); omega) | (show Eqv _ _; (simp (maxDischargeDepth := 8) [go_sem])) | (intro hq; first | exact hq.1 | exact hq) | (intro hq; exact ⟨hq, fun h2 => by rw [hq]; simp [h2]⟩) | (simp +contextual; done)))
            refine ⟨fun hc => ?_, fun hc => ?_⟩
            · rw [if_pos (by first | exact hc | (rw [hc]; rfl) | (revert hc; simp; done) | simpa using hc | (simp at hc ⊢; omega) | simp_all)] at hr
              repeat (refine And.intro ?_ ?_; focus (first | assumption | decide +kernel | (show _ ≠ _; omega) | ((fail_if_success intro _); omega) | (show Eqv _ _; (simp (maxDischargeDepth := 8) [go_sem]))))
              obtain rfl := Option.some.inj hr
              (simp (maxDischargeDepth := 8) [go_sem])
            · rw [if_neg (by first | exact hc | (rw [hc]; rfl) | (revert hc; simp; done) | simpa using hc | (simp at hc ⊢; omega) | simp_all)] at hr
              obtain ⟨v54, hv54, hr⟩ := of_bind0 hr
              try simp only [hv54, Option.getD_some, Option.isSome_some, true_and, and_assoc]
              repeat (refine And.intro ?_ ?_; focus (first | assumption | decide +kernel | (show _ ≠ _; omega) | ((fail_if_success intro _); omega) | (show Eqv _ _; (simp (maxDischargeDepth := 8) [go_sem]))))
              refine ⟨fun hc => ?_, fun hc => ?_⟩
              · rw [if_pos (by first | exact hc | (rw [hc]; rfl) | (revert hc; simp; done) | simpa using hc | (simp at hc ⊢; omega) | simp_all)] at hr
                obtain ⟨v55, hv55, hr⟩ := of_bind0 hr
                try simp only [hv55, Option.getD_some, Option.isSome_some, true_and, and_assoc]
                repeat (refine And.intro ?_ ?_; focus (first | assumption | decide +kernel | (show _ ≠ _; omega) | ((fail_if_success intro _); omega) | (show Eqv _ _; (simp (maxDischargeDepth := 8) [go_sem]))))
                refine ⟨fun hc => ?_, fun hc => ?_⟩
                · rw [if_pos (by first | exact hc | (rw [hc]; rfl) | (revert hc; simp; done) | simpa using hc | (simp at hc ⊢; omega) | simp_all)] at hr
                  repeat (refine And.intro ?_ ?_; focus (first | assumption | decide +kernel | (show _ ≠ _; omega) | ((fail_if_success intro _); omega) | (show Eqv _ _; (simp (maxDischargeDepth := 8) [go_sem]))))
                  refine ⟨fun hc => ?_, fun hc => ?_⟩
                  · rw [if_pos (by first | exact hc | (rw [hc]; rfl) | (revert hc; simp; done) | simpa using hc | (simp at hc ⊢; omega) | simp_all)] at hr
                    repeat (refine And.intro ?_ ?_; focus (first | assumption | decide +kernel | (show _ ≠ _; omega) | ((fail_if_success intro _); omega) | (show Eqv _ _; (simp (maxDischargeDepth := 8) [go_sem])) | (intro hq; first | exact hq.1 | exact hq) | (intro hq; exact ⟨hq, fun h2 => by rw [hq]; simp [h2]⟩) | (simp +contextual; done)))
                    obtain rfl := Option.some.inj hr
                    (simp (maxDischargeDepth := 8) [go_sem])
                  · rw [if_neg (by first | exact hc | (rw [hc]; rfl) | (revert hc; simp; done) | simpa using hc | (simp at hc ⊢; omega) | simp_all)] at hr
                    obtain ⟨v56, hv56, hr⟩ := of_bind0 hr
                    obtain ⟨v57, hv57, hr⟩ := of_bind0 hr
                    obtain ⟨hg58, hr⟩ := of_guard0 hr
                    obtain ⟨hg59, hr⟩ := of_guard0 hr
                    try simp only [hv56, hv57, Option.getD_some, Option.isSome_some, true_and, and_assoc]
                    repeat (refine And.intro ?_ ?_; focus (first | assumption | decide +kernel | (show _ ≠ _; omega) | ((fail_if_success intro _); omega) | (show Eqv _ _; (simp (maxDischargeDepth := 8) [go_sem])) | (intro hq; first | exact hg58 (by first | exact hq | (rw [hq]; rfl) | simpa using hq) | (have h9 := hg58 (by first | exact hq | (rw [hq]; rfl) | simpa using hq); first | omega | (simpa using h9)) | exact hg59 (by first | exact hq | (rw [hq]; rfl) | simpa using hq) | (have h9 := hg59 (by first | exact hq | (rw [hq]; rfl) | simpa using hq); first | omega | (simpa using h9)) | exact hq.1 | exact hq) | (intro hq; exact ⟨hq, fun h2 => by rw [hq]; simp [h2]⟩) | (simp +contextual; done)))
                    obtain rfl := Option.some.inj hr
                    (simp (maxDischargeDepth := 8) [go_sem])
                · rw [if_neg (by first | exact hc | (rw [hc]; rfl) | (revert hc; simp; done) | simpa using hc | (simp at hc ⊢; omega) | simp_all)] at hr
                  repeat (refine And.intro ?_ ?_; focus (first | assumption | decide +kernel | (show _ ≠ _; omega) | ((fail_if_success intro _); omega) | (show Eqv _ _; (simp (maxDischargeDepth := 8) [go_sem]))))
                  refine ⟨fun hc => ?_, fun hc => ?_⟩
                  · rw [if_pos (by first | exact hc | (rw [hc]; rfl) | (revert hc; simp; done) | simpa using hc | (simp at hc ⊢; omega) | simp_all)] at hr
                    repeat (refine And.intro ?_ ?_; focus (first | assumption | decide +kernel | (show _ ≠ _; omega) | ((fail_if_success intro _); omega) | (show Eqv _ _; (simp (maxDischargeDepth := 8) [go_sem])) | (intro hq; first | exact hq.1 | exact hq) | (intro hq; exact ⟨hq, fun h2 => by rw [hq]; simp [h2]⟩) | (simp +contextual; done)))
                    obtain rfl := Option.some.inj hr
                    (simp (maxDischargeDepth := 8) [go_sem])
                  · rw [if_neg (by first | exact hc | (rw [hc]; rfl) | (revert hc; simp; done) | simpa using hc | (simp at hc ⊢; omega) | simp_all)] at hr
                    obtain ⟨v60, hv60, hr⟩ := of_bind0 hr
                    obtain ⟨v61, hv61, hr⟩ := of_bind0 hr
                    obtain ⟨hg62, hr⟩ := of_guard0 hr
                    obtain ⟨hg63, hr⟩ := of_guard0 hr
                    try simp only [hv60, hv61, Option.getD_some, Option.isSome_some, true_and, and_assoc]
                    repeat (refine And.intro ?_ ?_; focus (first | assumption | decide +kernel | (show _ ≠ _; omega) | ((fail_if_success intro _); omega) | (show Eqv _ _; (simp (maxDischargeDepth := 8) [go_sem])) | (intro hq; first | exact hg62 (by first | exact hq | (rw [hq]; rfl) | simpa using hq) | (have h9 := hg62 (by first | exact hq | (rw [hq]; rfl) | simpa using hq); first | omega | (simpa using h9)) | exact hg63 (by first | exact hq | (rw [hq]; rfl) | simpa using hq) | (have h9 := hg63 (by first | exact hq | (rw [hq]; rfl) | simpa using hq); first | omega | (simpa using h9)) | exact hq.1 | exact hq) | (intro hq; exact ⟨hq, fun h2 => by rw [hq]; simp [h2]⟩) | (simp +contextual; done)))
                    obtain rfl := Option.some.inj hr
                    (simp (maxDischargeDepth := 8) [go_sem])
              · rw [if_neg (by first | exact hc | (rw [hc]; rfl) | (revert hc; simp; done) | simpa using hc | (simp at hc ⊢; omega) | simp_all)] at hr
                repeat (refine And.intro ?_ ?_; focus (first | assumption | decide +kernel | (show _ ≠ _; omega) | ((fail_if_success intro _); omega) | (show Eqv _ _; (simp (maxDischargeDepth := 8) [go_sem]))))
                refine ⟨fun hc => ?_, fun hc => ?_⟩
                · rw [if_pos (by first | exact hc | (rw [hc]; rfl) | (revert hc; simp; done) | simpa using hc | (simp at hc ⊢; omega) | simp_all)] at hr
                  repeat (refine And.intro ?_ ?_; focus (first | assumption | decide +kernel | (show _ ≠ _; omega) | ((fail_if_success intro _); omega) | (show Eqv _ _; (simp (maxDischargeDepth := 8) [go_sem])) | (intro hq; first | exact hq.1 | exact hq) | (intro hq; exact ⟨hq, fun h2 => by rw [hq]; simp [h2]⟩) | (simp +contextual; done)))
                  obtain rfl := Option.some.inj hr
                  (simp (maxDischargeDepth := 8) [go_sem])
                · rw [if_neg (by first | exact hc | (rw [hc]; rfl) | (revert hc; simp; done) | simpa using hc | (simp at hc ⊢; omega) | simp_all)] at hr
                  obtain ⟨v64, hv64, hr⟩ := of_bind0 hr
                  obtain ⟨v65, hv65, hr⟩ := of_bind0 hr
                  obtain ⟨hg66, hr⟩ := of_guard0 hr
                  obtain ⟨hg67, hr⟩ := of_guard0 hr
                  try simp only [hv64, hv65, Option.getD_some, Option.isSome_some, true_and, and_assoc]
                  repeat (refine And.intro ?_ ?_; focus (first | assumption | decide +kernel | (show _ ≠ _; omega) | ((fail_if_success intro _); omega) | (show Eqv _ _; (simp (maxDischargeDepth := 8) [go_sem])) | (intro hq; first | exact hg66 (by first | exact hq | (rw [hq]; rfl) | simpa using hq) | (have h9 := hg66 (by first | exact hq | (rw [hq]; rfl) | simpa using hq); first | omega | (simpa using h9)) | exact hg67 (by first | exact hq | (rw [hq]; rfl) | simpa using hq) | (have h9 := hg67 (by first | exact hq | (rw [hq]; rfl) | simpa using hq); first | omega | (simpa using h9)) | exact hq.1 | exact hq) | (intro hq; exact ⟨hq, fun h2 => by rw [hq]; simp [h2]⟩) | (simp +contextual; done)))
                  obtain rfl := Option.some.inj hr
                  (simp (maxDischargeDepth := 8) [go_sem])
          · rw [if_neg (by first | exact hc | (rw [hc]; rfl) | (revert hc; simp; done) | simpa using hc | (simp at hc ⊢; omega) | simp_all)] at hr
            obtain ⟨v68, hv68, hr⟩ := of_bind0 hr
            obtain ⟨hg83, hr⟩ := of_guard0 hr
            try simp only [hv68, Option.getD_some, Option.isSome_some, true_and, and_assoc]
            repeat (refine And.intro ?_ ?_; focus (first | assumption | decide +kernel | (show _ ≠ _; omega) | ((fail_if_success intro _); omega) | (show Eqv _ _; (simp (maxDischargeDepth := 8) [go_sem])) | (intro hq; first | exact hg83 (by first | exact hq | (rw [hq]; rfl) | simpa using hq) | (have h9 := hg83 (by first | exact hq | (rw [hq]; rfl) | simpa using hq); first | omega | (simpa using h9)) | exact hq.1 | exact hq) | (intro hq; exact ⟨hq, fun h2 => by rw [hq]; simp [h2]⟩) | (simp +contextual; done)))
            refine ⟨fun hc => ?_, fun hc => ?_⟩
            · rw [if_pos (by first | exact hc | (rw [hc]; rfl) | (revert hc; simp; done) | simpa using hc | (simp at hc ⊢; omega) | simp_all)] at hr
              repeat (refine And.intro ?_ ?_; focus (first | assumption | decide +kernel | (show _ ≠ _; omega) | ((fail_if_success intro _); omega) | (show Eqv _ _; (simp (maxDischargeDepth := 8) [go_sem]))))
              obtain rfl := Option.some.inj hr
              (simp (maxDischargeDepth := 8) [go_sem])
            · rw [if_neg (by first | exact hc | (rw [hc]; rfl) | (revert hc; simp; done) | simpa using hc | (simp at hc ⊢; omega) | simp_all)] at hr
              obtain ⟨v69, hv69, hr⟩ := of_bind0 hr
              try simp only [hv69, Option.getD_some, Option.isSome_some, true_and, and_assoc]
              repeat (refine And.intro ?_ ?_; focus (first | assumption | decide +kernel | (show _ ≠ _; omega) | ((fail_if_success intro _); omega) | (show Eqv _ _; (simp (maxDischargeDepth := 8) [go_sem]))))
              refine ⟨fun hc => ?_, fun hc => ?_⟩
              · rw [if_pos (by first | exact hc | (rw [hc]; rfl) | (revert hc; simp; done) | simpa using hc | (simp at hc ⊢; omega) | simp_all)] at hr
                obtain ⟨v70, hv70, hr⟩ := of_bind0 hr
                try simp only [hv70, Option.getD_some, Option.isSome_some, true_and, and_assoc]
                repeat (refine And.intro ?_ ?_; focus (first | assumption | decide +kernel | (show _ ≠ _; omega) | ((fail_if_success intro _); omega) | (show Eqv _ _; (simp (maxDischargeDepth := 8) [go_sem]))))
                refine ⟨fun hc => ?_, fun hc => ?_⟩
                · rw [if_pos (by first | exact hc | (rw [hc]; rfl) | (revert hc; simp; done) | simpa using hc | (simp at hc ⊢; omega) | simp_all)] at hr
                  repeat (refine And.intro ?_ ?_; focus (first | assumption | decide +kernel | (show _ ≠ _; omega) | ((fail_if_success intro _); omega) | (show Eqv _ _; (simp (maxDischargeDepth := 8) [go_sem]))))
                  refine ⟨fun hc => ?_, fun hc => ?_⟩
                  · rw [if_pos (by first | exact hc | (rw [hc]; rfl) | (revert hc; simp; done) | simpa using hc | (simp at hc ⊢; omega) | simp_all)] at hr
                    repeat (refine And.intro ?_ ?_; focus (first | assumption | decide +kernel | (show _ ≠ _; omega) | ((fail_if_success intro _); omega) | (show Eqv _ _; (simp (maxDischargeDepth := 8) [go_sem])) | (intro hq; first | exact hq.1 | exact hq) | (intro hq; exact ⟨hq, fun h2 => by rw [hq]; simp [h2]⟩) | (simp +contextual; done)))
                    obtain rfl := Option.some.inj hr
                    (simp (maxDischargeDepth := 8) [go_sem])
                  · rw [if_neg (by first | exact hc | (rw [hc]; rfl) | (revert hc; simp; done) | simpa using hc | (simp at hc ⊢; omega) | simp_all)] at hr
                    obtain ⟨v71, hv71, hr⟩ := of_bind0 hr
                    obtain ⟨v72, hv72, hr⟩ := of_bind0 hr
                    obtain ⟨hg73, hr⟩ := of_guard0 hr
                    obtain ⟨hg74, hr⟩ := of_guard0 hr
                    try simp only [hv71, hv72, Option.getD_some, Option.isSome_some, true_and, and_assoc]
                    repeat (refine And.intro ?_ ?_; focus (first | assumption | decide +kernel | (show _ ≠ _; omega) | ((fail_if_success intro _); omega) | (show Eqv _ _; (simp (maxDischargeDepth := 8) [go_sem])) | (intro hq; first | exact hg73 (by first | exact hq | (rw [hq]; rfl) | simpa using hq) | (have h9 := hg73 (by first | exact hq | (rw [hq]; rfl) | simpa using hq); first | omega | (simpa using h9)) | exact hg74 (by first | exact hq | (rw [hq]; rfl) | simpa using hq) | (have h9 := hg74 (by first | exact hq | (rw [hq]; rfl) | simpa using hq); first | omega | (simpa using h9)) | exact hq.1 | exact hq) | (intro hq; exact ⟨hq, fun h2 => by rw [hq]; simp [h2]⟩) | (simp +contextual; done)))
                    obtain rfl := Option.some.inj hr
                    (simp (maxDischargeDepth := 8) [go_sem])
                · rw [if_neg (by first | exact hc | (rw [hc]; rfl) | (revert hc; simp; done) | simpa using hc | (simp at hc ⊢; omega) | simp_all)] at hr
                  repeat (refine And.intro ?_ ?_; focus (first | assumption | decide +kernel | (show _ ≠ _; omega) | ((fail_if_success intro _); omega) | (show Eqv _ _; (simp (maxDischargeDepth := 8) [go_sem]))))
                  refine ⟨fun hc => ?_, fun hc => ?_⟩
                  · rw [if_pos (by first | exact hc | (rw [hc]; rfl) | (revert hc; simp; done) | simpa using hc | (simp at hc ⊢; omega) | simp_all)] at hr
                    repeat (refine And.intro ?_ ?_; focus (first | assumption | decide +kernel | (show _ ≠ _; omega) | ((fail_if_success intro _); omega) | (show Eqv _ _; (simp (maxDischargeDepth := 8) [go_sem])) | (intro hq; first | exact hq.1 | exact hq) | (intro hq; exact ⟨hq, fun h2 => by rw [hq]; simp [h2]⟩) | (simp +contextual; done)))
                    obtain rfl := Option.some.inj hr
                    (simp (maxDischargeDepth := 8) [go_sem])
                  · rw [if_neg (by first | exact hc | (rw [hc]; rfl) | (revert hc; simp; done) | simpa using hc | (simp at hc ⊢; omega) | simp_all)] at hr
                    obtain ⟨v75, hv75, hr⟩ := of_bind0 hr
                    obtain ⟨v76, hv76, hr⟩ := of_bind0 hr
                    obtain ⟨hg77, hr⟩ := of_guard0 hr
                    obtain ⟨hg78, hr⟩ := of_guard0 hr
                    try simp only [hv75, hv76, Option.getD_some, Option.isSome_some, true_and, and_assoc]
                    repeat (refine And.intro ?_ ?_; focus (first | assumption | decide +kernel | (show _ ≠ _; omega) | ((fail_if_success intro _); omega) | (show Eqv _ _; (simp (maxDischargeDepth := 8) [go_sem])) | (intro hq; first | exact hg77 (by first | exact hq | (rw [hq]; rfl) | simpa using hq) | (have h9 := hg77 (by first | exact hq | (rw [hq]; rfl) | simpa using hq); first | omega | (simpa using h9)) | exact hg78 (by first | exact hq | (rw [hq]; rfl) | simpa using hq) | (have h9 := hg78 (by first | exact hq | (rw [hq]; rfl) | simpa using hq); first | omega | (simpa using h9)) | exact hq.1 | exact hq) | (intro hq; exact ⟨hq, fun h2 => by rw [hq]; simp [h2]⟩) | (simp +contextual; done)))
                    obtain rfl := Option.some.inj hr
                    (simp (maxDischargeDepth := 8) [go_sem])
              · rw [if_neg (by first | exact hc | (rw [hc]; rfl) | (revert hc; simp; done) | simpa using hc | (simp at hc ⊢; omega) | simp_all)] at hr
                repeat (refine And.intro ?_ ?_; focus (first | assumption | decide +kernel | (show _ ≠ _; omega) | ((fail_if_success intro _); omega) | (show Eqv _ _; (simp (maxDischargeDepth := 8) [go_sem]))))
                refine ⟨fun hc => ?_, fun hc => ?_⟩
                · rw [if_pos (by first | exact hc | (rw [hc]; rfl) | (revert hc; simp; done) | simpa using hc | (simp at hc ⊢; omega) | simp_all)] at hr
                  repeat (refine And.intro ?_ ?_; focus (first | assumption | decide +kernel | (show _ ≠ _; omega) | ((fail_if_success intro _); omega) | (show Eqv _ _; (simp (maxDischargeDepth := 8) [go_sem])) | (intro hq; first | exact hq.1 | exact hq) | (intro hq; exact ⟨hq, fun h2 => by rw [hq]; simp [h2]⟩) | (simp +contextual; done)))
                  obtain rfl := Option.some.inj hr
                  (simp (maxDischargeDepth := 8) [go_sem])
                · rw [if_neg (by first | exact hc | (rw [hc]; rfl) | (revert hc; simp; done) | simpa using hc | (simp at hc ⊢; omega) | simp_all)] at hr
                  obtain ⟨v79, hv79, hr⟩ := of_bind0 hr
                  obtain ⟨v80, hv80, hr⟩ := of_bind0 hr
                  obtain ⟨hg81, hr⟩ := of_guard0 hr
                  obtain ⟨hg82, hr⟩ := of_guard0 hr
                  try simp only [hv79, hv80, Option.getD_some, Option.isSome_some, true_and, and_assoc]
                  repeat (refine And.intro ?_ ?_; focus (first | assumption | decide +kernel | (show _ ≠ _; omega) | ((fail_if_success intro _); omega) | (show Eqv _ _; (simp (maxDischargeDepth := 8) [go_sem])) | (intro hq; first | exact hg81 (by first | exact hq | (rw [hq]; rfl) | simpa using hq) | (have h9 := hg81 (by first | exact hq | (rw [hq]; rfl) | simpa using hq); first | omega | (simpa using h9)) | exact hg82 (by first | exact hq | (rw [hq]; rfl) | simpa using hq) | (have h9 := hg82 (by first | exact hq | (rw [hq]; rfl) | simpa using hq); first | omega | (simpa using h9)) | exact hq.1 | exact hq) | (intro hq; exact ⟨hq, fun h2 => by rw [hq]; simp [h2]⟩) | (simp +contextual; done)))
                  obtain rfl := Option.some.inj hr
                  (simp (maxDischargeDepth := 8) [go_sem])
theorem f8 : FnFact Try.prog 8 T8.sp := ⟨⟨Try.f8, Try.func8, by decide, rfl⟩, v8⟩
end Go.Proofs.Ytcbiiijnaeibhaa
