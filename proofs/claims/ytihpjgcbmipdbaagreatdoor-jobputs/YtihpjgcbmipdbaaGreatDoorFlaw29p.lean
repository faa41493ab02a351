/- Models of functions of the program, and that each keeps its contract: for all arguments of its shape. No condition. -/
import Derived.Test.YtihpjgcbmipdbaaGreatDoorKt
import Derived.Test.YtihpjgcbmipdbaaGreatDoorFlaw29
import Derived.Test.YtihpjgcbmipdbaaGreatDoorFstore
namespace Go.Vm
open Go.Proofs
set_option linter.unusedVariables false
noncomputable def lr:Spec Kd:={ params := [(.agg [(.int .i64),(.int .i64),(.int .i64), .str,(.int .i64),(.int .i64), .bool,(.int .i64),(.int .i64), .str,(.int .i64),(.int .i64),(.int .i64),(.int .i64), .str,(.int .i64),(.int .i64),(.int .i64), .str, .str, .str, .str,(.slc .ph),(.int .i64), .str,(.int .i64),(.int .i64),(.int .i64),(.int .i64),(.int .i64),(.int .i64),(.int .i64),(.int .i64),(.int .i64),(.int .i64),(.int .i64)])],ret:=(.one (.a .bool)),pins := [],pl:={ nt:=118,bjoins := [(1,(.norm,⟨[.tmp 1 (.a (.ptr 64 0)), .tmp 3 (.a (.ptr 192 0)), .tmp 42 (.a (.slc .pl)), .tmp 43 (.a (.int .i64)), .tmp 44 (.a (.int .i64)), .box 64 (.cells 77 [(.int .i64),(.int .i64),(.int .i64), .str,(.int .i64),(.int .i64), .bool,(.int .i64),(.int .i64), .str,(.int .i64),(.int .i64),(.int .i64),(.int .i64), .str,(.int .i64),(.int .i64),(.int .i64), .str, .str, .str, .str,(.slc .ph),(.int .i64), .str,(.int .i64),(.int .i64),(.int .i64),(.int .i64),(.int .i64),(.int .i64),(.int .i64),(.int .i64),(.int .i64),(.int .i64),(.int .i64)]), .box 192 (.cells 35 [(.int .i64), .str,(.int .i64),(.int .i64),(.int .i64),(.int .i64), .str,(.int .i64),(.int .i64),(.int .i64), .str, .str, .str, .str])],[],[.cellSlc 64 22 .ph]⟩),[(.ret,⟨[.tmp 2 (.a .bool)],[],[]⟩)])],loops := [(0,⟨[.tmp 1 (.a (.ptr 64 0)), .tmp 3 (.a (.ptr 192 0)), .tmp 42 (.a (.slc .pl)), .tmp 43 (.a (.int .i64)), .tmp 44 (.a (.int .i64)), .box 64 (.cells 77 [(.int .i64),(.int .i64),(.int .i64), .str,(.int .i64),(.int .i64), .bool,(.int .i64),(.int .i64), .str,(.int .i64),(.int .i64),(.int .i64),(.int .i64), .str,(.int .i64),(.int .i64),(.int .i64), .str, .str, .str, .str,(.slc .ph),(.int .i64), .str,(.int .i64),(.int .i64),(.int .i64),(.int .i64),(.int .i64),(.int .i64),(.int .i64),(.int .i64),(.int .i64),(.int .i64),(.int .i64)]), .box 192 (.cells 35 [(.int .i64), .str,(.int .i64),(.int .i64),(.int .i64),(.int .i64), .str,(.int .i64),(.int .i64),(.int .i64), .str, .str, .str, .str])],[],[.cellSlc 64 22 .ph]⟩,(.exit 0,⟨[],[],[]⟩),[(.ret,⟨[.tmp 2 (.a .bool)],[],[]⟩)])],cuts := [(14,[(14,⟨[.tmp 1 (.a (.ptr 64 0)), .tmp 3 (.a (.ptr 192 0)), .tmp 6 (.a (.ptr 384 0)), .tmp 7 (.a (.ptr 4288 0)), .tmp 42 (.a (.slc .pl)), .tmp 43 (.a (.int .i64)), .tmp 44 (.a (.int .i64)), .tmp 81 (.a .bool), .box 64 (.cells 77 [(.int .i64),(.int .i64),(.int .i64), .str,(.int .i64),(.int .i64), .bool,(.int .i64),(.int .i64), .str,(.int .i64),(.int .i64),(.int .i64),(.int .i64), .str,(.int .i64),(.int .i64),(.int .i64), .str, .str, .str, .str,(.slc .ph),(.int .i64), .str,(.int .i64),(.int .i64),(.int .i64),(.int .i64),(.int .i64),(.int .i64),(.int .i64),(.int .i64),(.int .i64),(.int .i64),(.int .i64)]), .box 192 (.cells 35 [(.int .i64), .str,(.int .i64),(.int .i64),(.int .i64),(.int .i64), .str,(.int .i64),(.int .i64),(.int .i64), .str, .str, .str, .str]), .box 384 (.cells 35 [(.int .i64), .str,(.int .i64),(.int .i64),(.int .i64),(.int .i64), .str,(.int .i64),(.int .i64),(.int .i64), .str, .str, .str, .str]), .box 4288 (.cells 91 [(.int .i64),(.slc .en),(.int .i64)])],[],[.cellSlc 64 22 .ph, .cellSlc 4288 1 .en]⟩),(7,⟨[.tmp 1 (.a (.ptr 64 0)), .tmp 3 (.a (.ptr 192 0)), .tmp 6 (.a (.ptr 384 0)), .tmp 7 (.a (.ptr 4288 0)), .tmp 42 (.a (.slc .pl)), .tmp 43 (.a (.int .i64)), .tmp 44 (.a (.int .i64)), .tmp 88 (.a .bool), .box 64 (.cells 77 [(.int .i64),(.int .i64),(.int .i64), .str,(.int .i64),(.int .i64), .bool,(.int .i64),(.int .i64), .str,(.int .i64),(.int .i64),(.int .i64),(.int .i64), .str,(.int .i64),(.int .i64),(.int .i64), .str, .str, .str, .str,(.slc .ph),(.int .i64), .str,(.int .i64),(.int .i64),(.int .i64),(.int .i64),(.int .i64),(.int .i64),(.int .i64),(.int .i64),(.int .i64),(.int .i64),(.int .i64)]), .box 192 (.cells 35 [(.int .i64), .str,(.int .i64),(.int .i64),(.int .i64),(.int .i64), .str,(.int .i64),(.int .i64),(.int .i64), .str, .str, .str, .str]), .box 384 (.cells 35 [(.int .i64), .str,(.int .i64),(.int .i64),(.int .i64),(.int .i64), .str,(.int .i64),(.int .i64),(.int .i64), .str, .str, .str, .str]), .box 4288 (.cells 91 [(.int .i64),(.slc .en),(.int .i64)])],[],[.cellSlc 64 22 .ph, .cellSlc 4288 1 .en]⟩),(7,⟨[.tmp 1 (.a (.ptr 64 0)), .tmp 3 (.a (.ptr 192 0)), .tmp 6 (.a (.ptr 384 0)), .tmp 7 (.a (.ptr 4288 0)), .tmp 42 (.a (.slc .pl)), .tmp 43 (.a (.int .i64)), .tmp 44 (.a (.int .i64)), .tmp 95 (.a .bool), .box 64 (.cells 77 [(.int .i64),(.int .i64),(.int .i64), .str,(.int .i64),(.int .i64), .bool,(.int .i64),(.int .i64), .str,(.int .i64),(.int .i64),(.int .i64),(.int .i64), .str,(.int .i64),(.int .i64),(.int .i64), .str, .str, .str, .str,(.slc .ph),(.int .i64), .str,(.int .i64),(.int .i64),(.int .i64),(.int .i64),(.int .i64),(.int .i64),(.int .i64),(.int .i64),(.int .i64),(.int .i64),(.int .i64)]), .box 192 (.cells 35 [(.int .i64), .str,(.int .i64),(.int .i64),(.int .i64),(.int .i64), .str,(.int .i64),(.int .i64),(.int .i64), .str, .str, .str, .str]), .box 384 (.cells 35 [(.int .i64), .str,(.int .i64),(.int .i64),(.int .i64),(.int .i64), .str,(.int .i64),(.int .i64),(.int .i64), .str, .str, .str, .str]), .box 4288 (.cells 91 [(.int .i64),(.slc .en),(.int .i64)])],[],[.cellSlc 64 22 .ph, .cellSlc 4288 1 .en]⟩),(7,⟨[.tmp 1 (.a (.ptr 64 0)), .tmp 3 (.a (.ptr 192 0)), .tmp 6 (.a (.ptr 384 0)), .tmp 7 (.a (.ptr 4288 0)), .tmp 42 (.a (.slc .pl)), .tmp 43 (.a (.int .i64)), .tmp 44 (.a (.int .i64)), .tmp 102 (.a .bool), .box 64 (.cells 77 [(.int .i64),(.int .i64),(.int .i64), .str,(.int .i64),(.int .i64), .bool,(.int .i64),(.int .i64), .str,(.int .i64),(.int .i64),(.int .i64),(.int .i64), .str,(.int .i64),(.int .i64),(.int .i64), .str, .str, .str, .str,(.slc .ph),(.int .i64), .str,(.int .i64),(.int .i64),(.int .i64),(.int .i64),(.int .i64),(.int .i64),(.int .i64),(.int .i64),(.int .i64),(.int .i64),(.int .i64)]), .box 192 (.cells 35 [(.int .i64), .str,(.int .i64),(.int .i64),(.int .i64),(.int .i64), .str,(.int .i64),(.int .i64),(.int .i64), .str, .str, .str, .str]), .box 384 (.cells 35 [(.int .i64), .str,(.int .i64),(.int .i64),(.int .i64),(.int .i64), .str,(.int .i64),(.int .i64),(.int .i64), .str, .str, .str, .str]), .box 4288 (.cells 91 [(.int .i64),(.slc .en),(.int .i64)])],[],[.cellSlc 64 22 .ph, .cellSlc 4288 1 .en]⟩),(7,⟨[.tmp 1 (.a (.ptr 64 0)), .tmp 3 (.a (.ptr 192 0)), .tmp 6 (.a (.ptr 384 0)), .tmp 7 (.a (.ptr 4288 0)), .tmp 42 (.a (.slc .pl)), .tmp 43 (.a (.int .i64)), .tmp 44 (.a (.int .i64)), .tmp 109 (.a .bool), .box 64 (.cells 77 [(.int .i64),(.int .i64),(.int .i64), .str,(.int .i64),(.int .i64), .bool,(.int .i64),(.int .i64), .str,(.int .i64),(.int .i64),(.int .i64),(.int .i64), .str,(.int .i64),(.int .i64),(.int .i64), .str, .str, .str, .str,(.slc .ph),(.int .i64), .str,(.int .i64),(.int .i64),(.int .i64),(.int .i64),(.int .i64),(.int .i64),(.int .i64),(.int .i64),(.int .i64),(.int .i64),(.int .i64)]), .box 192 (.cells 35 [(.int .i64), .str,(.int .i64),(.int .i64),(.int .i64),(.int .i64), .str,(.int .i64),(.int .i64),(.int .i64), .str, .str, .str, .str]), .box 384 (.cells 35 [(.int .i64), .str,(.int .i64),(.int .i64),(.int .i64),(.int .i64), .str,(.int .i64),(.int .i64),(.int .i64), .str, .str, .str, .str]), .box 4288 (.cells 91 [(.int .i64),(.slc .en),(.int .i64)])],[],[.cellSlc 64 22 .ph, .cellSlc 4288 1 .en]⟩),(7,⟨[.tmp 1 (.a (.ptr 64 0)), .tmp 3 (.a (.ptr 192 0)), .tmp 42 (.a (.slc .pl)), .tmp 43 (.a (.int .i64)), .tmp 44 (.a (.int .i64)), .tmp 116 (.a .bool), .box 64 (.cells 77 [(.int .i64),(.int .i64),(.int .i64), .str,(.int .i64),(.int .i64), .bool,(.int .i64),(.int .i64), .str,(.int .i64),(.int .i64),(.int .i64),(.int .i64), .str,(.int .i64),(.int .i64),(.int .i64), .str, .str, .str, .str,(.slc .ph),(.int .i64), .str,(.int .i64),(.int .i64),(.int .i64),(.int .i64),(.int .i64),(.int .i64),(.int .i64),(.int .i64),(.int .i64),(.int .i64),(.int .i64)]), .box 192 (.cells 35 [(.int .i64), .str,(.int .i64),(.int .i64),(.int .i64),(.int .i64), .str,(.int .i64),(.int .i64),(.int .i64), .str, .str, .str, .str])],[],[.cellSlc 64 22 .ph]⟩)]),(9,[(8,⟨[.tmp 1 (.a (.ptr 64 0)), .tmp 3 (.a (.ptr 192 0)), .tmp 5 (.a (.ptr 320 0)), .tmp 42 (.a (.slc .pl)), .tmp 43 (.a (.int .i64)), .tmp 44 (.a (.int .i64)), .tmp 55 (.a .bool), .box 64 (.cells 77 [(.int .i64),(.int .i64),(.int .i64), .str,(.int .i64),(.int .i64), .bool,(.int .i64),(.int .i64), .str,(.int .i64),(.int .i64),(.int .i64),(.int .i64), .str,(.int .i64),(.int .i64),(.int .i64), .str, .str, .str, .str,(.slc .ph),(.int .i64), .str,(.int .i64),(.int .i64),(.int .i64),(.int .i64),(.int .i64),(.int .i64),(.int .i64),(.int .i64),(.int .i64),(.int .i64),(.int .i64)]), .box 192 (.cells 35 [(.int .i64), .str,(.int .i64),(.int .i64),(.int .i64),(.int .i64), .str,(.int .i64),(.int .i64),(.int .i64), .str, .str, .str, .str]), .box 320 (.cells 82 [(.int .i64),(.int .i64), .str,(.int .i64),(.int .i64),(.int .i64),(.int .i64), .str,(.int .i64),(.int .i64),(.int .i64), .str, .str, .str, .str,(.int .i64), .str,(.int .i64),(.int .i64),(.int .i64), .str, .str,(.int .i64),(.int .i64),(.int .i64), .str,(.int .i64),(.int .i64)])],[],[.cellSlc 64 22 .ph]⟩)]),(4,[(8,⟨[.tmp 1 (.a (.ptr 64 0)), .tmp 3 (.a (.ptr 192 0)), .tmp 19 (.a .bool), .box 64 (.cells 77 [(.int .i64),(.int .i64),(.int .i64), .str,(.int .i64),(.int .i64), .bool,(.int .i64),(.int .i64), .str,(.int .i64),(.int .i64),(.int .i64),(.int .i64), .str,(.int .i64),(.int .i64),(.int .i64), .str, .str, .str, .str,(.slc .ph),(.int .i64), .str,(.int .i64),(.int .i64),(.int .i64),(.int .i64),(.int .i64),(.int .i64),(.int .i64),(.int .i64),(.int .i64),(.int .i64),(.int .i64)]), .box 192 (.cells 35 [(.int .i64), .str,(.int .i64),(.int .i64),(.int .i64),(.int .i64), .str,(.int .i64),(.int .i64),(.int .i64), .str, .str, .str, .str])],[],[.cellSlc 64 22 .ph]⟩)])],ends := [(6,⟨[.tmp 1 (.a (.ptr 64 0)), .tmp 3 (.a (.ptr 192 0)), .tmp 42 (.a (.slc .pl)), .tmp 43 (.a (.int .i64)), .tmp 44 (.a (.int .i64)), .box 64 (.cells 77 [(.int .i64),(.int .i64),(.int .i64), .str,(.int .i64),(.int .i64), .bool,(.int .i64),(.int .i64), .str,(.int .i64),(.int .i64),(.int .i64),(.int .i64), .str,(.int .i64),(.int .i64),(.int .i64), .str, .str, .str, .str,(.slc .ph),(.int .i64), .str,(.int .i64),(.int .i64),(.int .i64),(.int .i64),(.int .i64),(.int .i64),(.int .i64),(.int .i64),(.int .i64),(.int .i64),(.int .i64)]), .box 192 (.cells 35 [(.int .i64), .str,(.int .i64),(.int .i64),(.int .i64),(.int .i64), .str,(.int .i64),(.int .i64),(.int .i64), .str, .str, .str, .str])],[],[.cellSlc 64 22 .ph]⟩)] },rfrz := [],ts := [2] }
noncomputable def bC (F:Nat) (v7:(Unit ×
         Unit ×
          List
            (Int ×
             Int ×
              B8 ×
               Int ×
                Int ×
                 Int ×
                  Int ×
                   B8 ×
                    Int ×
                     Int ×
                      Int ×
                       B8 ×
                        B8 ×
                         B8 ×
                          B8 ×
                           Int ×
                            B8 ×
                             Int×Int×Int×B8×B8×Int×Int×Int×B8×Int×Int×Unit) ×
           Int ×
            Int ×
             (Int ×
               Int ×
                Int ×
                 B8 ×
                  Int ×
                   Int ×
                    Bool ×
                     Int ×
                      Int ×
                       B8 ×
                        Int ×
                         Int ×
                          Int ×
                           Int ×
                            B8 ×
                             Int ×
                              Int ×
                               Int ×
                                B8 ×
                                 B8 ×
                                  B8 ×
                                   B8 ×
                                    List (Int×B8×Int×B8×Unit) ×
                                     Int ×
                                      B8 ×
                                       Int×Int×Int×Int×Int×Int×Int×Int×Int×Int×Int×Unit) ×
              (Int ×
                B8×Int×Int×Int×Int×B8×Int×Int×Int×B8×B8×B8×B8×Unit) ×
               Unit)):Option ((Unit ×
         Unit ×
          List
            (Int ×
             Int ×
              B8 ×
               Int ×
                Int ×
                 Int ×
                  Int ×
                   B8 ×
                    Int ×
                     Int ×
                      Int ×
                       B8 ×
                        B8 ×
                         B8 ×
                          B8 ×
                           Int ×
                            B8 ×
                             Int×Int×Int×B8×B8×Int×Int×Int×B8×Int×Int×Unit) ×
           Int ×
            Int ×
             (Int ×
               Int ×
                Int ×
                 B8 ×
                  Int ×
                   Int ×
                    Bool ×
                     Int ×
                      Int ×
                       B8 ×
                        Int ×
                         Int ×
                          Int ×
                           Int ×
                            B8 ×
                             Int ×
                              Int ×
                               Int ×
                                B8 ×
                                 B8 ×
                                  B8 ×
                                   B8 ×
                                    List (Int×B8×Int×B8×Unit) ×
                                     Int ×
                                      B8 ×
                                       Int×Int×Int×Int×Int×Int×Int×Int×Int×Int×Int×Unit) ×
              (Int ×
                B8×Int×Int×Int×Int×B8×Int×Int×Int×B8×B8×B8×B8×Unit) ×
               Unit) ⊕ (Unit ⊕ Bool×Unit)) :=
 if decide (v7.2.2.2.2.1<v7.2.2.2.1)=true then
          ((idx v7.2.2.1 v7.2.2.2.2.1).bind
             fun
              (v8 :
               Int ×
                Int ×
                 B8 ×
                  Int ×
                   Int ×
                    Int ×
                     Int ×
                      B8 ×
                       Int ×
                        Int ×
                         Int ×
                          B8 ×
                           B8 ×
                            B8 ×
                             B8 ×
                              Int ×
                               B8 ×
                                Int×Int×Int×B8×B8×Int×Int×Int×B8×Int×Int×Unit) =>
             (if (!decide (v8.1=3))=true then
                some ((),(),(),v7.2.2.1,v7.2.2.2.1,v7.2.2.2.2.1, !decide (v8.1=4),v7.2.2.2.2.2.1,v7.2.2.2.2.2.2.1,v8,())
               else some ((),(),(),v7.2.2.1,v7.2.2.2.1,v7.2.2.2.2.1,false,v7.2.2.2.2.2.1,v7.2.2.2.2.2.2.1,v8,())).bind
              fun
               (v9 :
                Unit ×
                 Unit ×
                  Unit ×
                   List
                     (Int ×
                      Int ×
                       B8 ×
                        Int ×
                         Int ×
                          Int ×
                           Int ×
                            B8 ×
                             Int ×
                              Int ×
                               Int ×
                                B8 ×
                                 B8 ×
                                  B8 ×
                                   B8 ×
                                    Int ×
                                     B8 ×
                                      Int ×
                                       Int ×
                                        Int ×
                                         B8×B8×Int×Int×Int×B8×Int×Int×Unit) ×
                    Int ×
                     Int ×
                      Bool ×
                       (Int ×
                         Int ×
                          Int ×
                           B8 ×
                            Int ×
                             Int ×
                              Bool ×
                               Int ×
                                Int ×
                                 B8 ×
                                  Int ×
                                   Int ×
                                    Int ×
                                     Int ×
                                      B8 ×
                                       Int ×
                                        Int ×
                                         Int ×
                                          B8 ×
                                           B8 ×
                                            B8 ×
                                             B8 ×
                                              List (Int×B8×Int×B8×Unit) ×
                                               Int ×
                                                B8 ×
                                                 Int ×
                                                  Int ×
                                                   Int ×
                                                    Int×Int×Int×Int×Int×Int×Int×Int×Unit) ×
                        (Int ×
                          B8 ×
                           Int ×
                            Int ×
                             Int ×
                              Int×B8×Int×Int×Int×B8×B8×B8×B8×Unit) ×
                         (Int ×
                           Int ×
                            B8 ×
                             Int ×
                              Int ×
                               Int ×
                                Int ×
                                 B8 ×
                                  Int ×
                                   Int ×
                                    Int ×
                                     B8 ×
                                      B8 ×
                                       B8 ×
                                        B8 ×
                                         Int ×
                                          B8 ×
                                           Int ×
                                            Int ×
                                             Int ×
                                              B8 ×
                                               B8×Int×Int×Int×B8×Int×Int×Unit) ×
                          Unit) =>
              if v9.2.2.2.2.2.2.1=true then
               if
                 (!(decide (v9.2.2.2.2.2.2.2.2.2.1.2.1=0) &&
                    (decide (v9.2.2.2.2.2.2.2.2.2.1.2.2.1 = []) &&
                     (decide (v9.2.2.2.2.2.2.2.2.2.1.2.2.2.1=0) &&
                      (decide (v9.2.2.2.2.2.2.2.2.2.1.2.2.2.2.1=0) &&
                       (decide (v9.2.2.2.2.2.2.2.2.2.1.2.2.2.2.2.1=0) &&
                        (decide (v9.2.2.2.2.2.2.2.2.2.1.2.2.2.2.2.2.1=0) &&
                         (decide (v9.2.2.2.2.2.2.2.2.2.1.2.2.2.2.2.2.2.1 = []) &&
                          (decide (v9.2.2.2.2.2.2.2.2.2.1.2.2.2.2.2.2.2.2.1=0) &&
                           (decide (v9.2.2.2.2.2.2.2.2.2.1.2.2.2.2.2.2.2.2.2.1=0) &&
                            (decide (v9.2.2.2.2.2.2.2.2.2.1.2.2.2.2.2.2.2.2.2.2.1=0) &&
                             (decide (v9.2.2.2.2.2.2.2.2.2.1.2.2.2.2.2.2.2.2.2.2.2.1 = []) &&
                              (decide (v9.2.2.2.2.2.2.2.2.2.1.2.2.2.2.2.2.2.2.2.2.2.2.1 = []) &&
                               (decide (v9.2.2.2.2.2.2.2.2.2.1.2.2.2.2.2.2.2.2.2.2.2.2.2.1 = []) &&
                                (decide (v9.2.2.2.2.2.2.2.2.2.1.2.2.2.2.2.2.2.2.2.2.2.2.2.2.1 = []) && true))))))))))))))) =
                  true then
                some (Sum.inr (false,()))
               else some (Sum.inl ((),(),v9.2.2.2.1,v9.2.2.2.2.1,v9.2.2.2.2.2.1,v9.2.2.2.2.2.2.2.1,v9.2.2.2.2.2.2.2.2.1,()))
              else
               ((iM F
                    ((v9.2.2.2.2.2.2.2.1.1,v9.2.2.2.2.2.2.2.1.2.1,v9.2.2.2.2.2.2.2.1.2.2.1,v9.2.2.2.2.2.2.2.1.2.2.2.1,
                      v9.2.2.2.2.2.2.2.1.2.2.2.2.1,v9.2.2.2.2.2.2.2.1.2.2.2.2.2.1,v9.2.2.2.2.2.2.2.1.2.2.2.2.2.2.1,
                      v9.2.2.2.2.2.2.2.1.2.2.2.2.2.2.2.1,()),
                     v9.2.2.2.2.2.2.2.2.1,v9.2.2.2.2.2.2.2.1.2.2.2.2.2.2.2.2.2.2.2.2.2.2.2.2.2.2.2.2.2.2.2.2.2.2.2.2.2.1)).bind
                  fun (v10:Bool) =>
                  if (!v10)=false then
                   some
                    ((),(),(),(),v9.2.2.2.1,v9.2.2.2.2.1,v9.2.2.2.2.2.1,
                      !decide (v9.2.2.2.2.2.2.2.2.2.1.2.1=v9.2.2.2.2.2.2.2.2.1.1),v9.2.2.2.2.2.2.2.1,v9.2.2.2.2.2.2.2.2.1,
                      (v9.2.2.2.2.2.2.2.2.2.1.2.1,v9.2.2.2.2.2.2.2.2.2.1.2.2.1,v9.2.2.2.2.2.2.2.2.2.1.2.2.2.1,
                        v9.2.2.2.2.2.2.2.2.2.1.2.2.2.2.1,v9.2.2.2.2.2.2.2.2.2.1.2.2.2.2.2.1,v9.2.2.2.2.2.2.2.2.2.1.2.2.2.2.2.2.1,
                        v9.2.2.2.2.2.2.2.2.2.1.2.2.2.2.2.2.2.1,v9.2.2.2.2.2.2.2.2.2.1.2.2.2.2.2.2.2.2.1,
                        v9.2.2.2.2.2.2.2.2.2.1.2.2.2.2.2.2.2.2.2.1,v9.2.2.2.2.2.2.2.2.2.1.2.2.2.2.2.2.2.2.2.2.1,
                        v9.2.2.2.2.2.2.2.2.2.1.2.2.2.2.2.2.2.2.2.2.2.1,v9.2.2.2.2.2.2.2.2.2.1.2.2.2.2.2.2.2.2.2.2.2.2.1,
                        v9.2.2.2.2.2.2.2.2.2.1.2.2.2.2.2.2.2.2.2.2.2.2.2.1,v9.2.2.2.2.2.2.2.2.2.1.2.2.2.2.2.2.2.2.2.2.2.2.2.2.1,()),
                      (200,[v9.2.2.2.2.2.2.2.2.1],v9.2.2.2.2.2.2.2.2.1.2.2.2.1,()),())
                  else
                   some
                    ((),(),(),(),v9.2.2.2.1,v9.2.2.2.2.1,v9.2.2.2.2.2.1,true,v9.2.2.2.2.2.2.2.1,v9.2.2.2.2.2.2.2.2.1,
                      (v9.2.2.2.2.2.2.2.2.2.1.2.1,v9.2.2.2.2.2.2.2.2.2.1.2.2.1,v9.2.2.2.2.2.2.2.2.2.1.2.2.2.1,
                        v9.2.2.2.2.2.2.2.2.2.1.2.2.2.2.1,v9.2.2.2.2.2.2.2.2.2.1.2.2.2.2.2.1,v9.2.2.2.2.2.2.2.2.2.1.2.2.2.2.2.2.1,
                        v9.2.2.2.2.2.2.2.2.2.1.2.2.2.2.2.2.2.1,v9.2.2.2.2.2.2.2.2.2.1.2.2.2.2.2.2.2.2.1,
                        v9.2.2.2.2.2.2.2.2.2.1.2.2.2.2.2.2.2.2.2.1,v9.2.2.2.2.2.2.2.2.2.1.2.2.2.2.2.2.2.2.2.2.1,
                        v9.2.2.2.2.2.2.2.2.2.1.2.2.2.2.2.2.2.2.2.2.2.1,v9.2.2.2.2.2.2.2.2.2.1.2.2.2.2.2.2.2.2.2.2.2.2.1,
                        v9.2.2.2.2.2.2.2.2.2.1.2.2.2.2.2.2.2.2.2.2.2.2.2.1,v9.2.2.2.2.2.2.2.2.2.1.2.2.2.2.2.2.2.2.2.2.2.2.2.2.1,()),
                      (200,[v9.2.2.2.2.2.2.2.2.1],v9.2.2.2.2.2.2.2.2.1.2.2.2.1,()),())).bind
                fun
                 (v11 :
                  Unit ×
                   Unit ×
                    Unit ×
                     Unit ×
                      List
                        (Int ×
                         Int ×
                          B8 ×
                           Int ×
                            Int ×
                             Int ×
                              Int ×
                               B8 ×
                                Int ×
                                 Int ×
                                  Int ×
                                   B8 ×
                                    B8 ×
                                     B8 ×
                                      B8 ×
                                       Int ×
                                        B8 ×
                                         Int ×
                                          Int ×
                                           Int ×
                                            B8 ×
                                             B8×Int×Int×Int×B8×Int×Int×Unit) ×
                       Int ×
                        Int ×
                         Bool ×
                          (Int ×
                            Int ×
                             Int ×
                              B8 ×
                               Int ×
                                Int ×
                                 Bool ×
                                  Int ×
                                   Int ×
                                    B8 ×
                                     Int ×
                                      Int ×
                                       Int ×
                                        Int ×
                                         B8 ×
                                          Int ×
                                           Int ×
                                            Int ×
                                             B8 ×
                                              B8 ×
                                               B8 ×
                                                B8 ×
                                                 List (Int×B8×Int×B8×Unit) ×
                                                  Int ×
                                                   B8 ×
                                                    Int ×
                                                     Int ×
                                                      Int ×
                                                       Int ×
                                                        Int ×
                                                         Int×Int×Int×Int×Int×Int×Unit) ×
                           (Int ×
                             B8 ×
                              Int ×
                               Int ×
                                Int ×
                                 Int ×
                                  B8×Int×Int×Int×B8×B8×B8×B8×Unit) ×
                            (Int ×
                              B8 ×
                               Int ×
                                Int ×
                                 Int ×
                                  Int ×
                                   B8 ×
                                    Int×Int×Int×B8×B8×B8×B8×Unit) ×
                             (Int ×
                               List
                                 (Int ×
                                  B8 ×
                                   Int ×
                                    Int ×
                                     Int ×
                                      Int ×
                                       B8 ×
                                        Int×Int×Int×B8×B8×B8×B8×Unit) ×
                                Int×Unit) ×
                              Unit) =>
                (if v11.2.2.2.2.2.2.2.1=false then
                   some
                    ((),(),(),(),v11.2.2.2.2.1,v11.2.2.2.2.2.1,v11.2.2.2.2.2.2.1,
                      !decide (v11.2.2.2.2.2.2.2.2.2.2.1.2.1=v11.2.2.2.2.2.2.2.2.2.1.2.1),v11.2.2.2.2.2.2.2.2.1,v11.2.2.2.2.2.2.2.2.2.1,
                      v11.2.2.2.2.2.2.2.2.2.2.1,
                      (v11.2.2.2.2.2.2.2.2.2.2.2.1.1,v11.2.2.2.2.2.2.2.2.2.2.2.1.2.1,v11.2.2.2.2.2.2.2.2.2.2.2.1.2.2.1,()),())
                  else
                   some
                    ((),(),(),(),v11.2.2.2.2.1,v11.2.2.2.2.2.1,v11.2.2.2.2.2.2.1,true,v11.2.2.2.2.2.2.2.2.1,
                      v11.2.2.2.2.2.2.2.2.2.1,v11.2.2.2.2.2.2.2.2.2.2.1,
                      (v11.2.2.2.2.2.2.2.2.2.2.2.1.1,v11.2.2.2.2.2.2.2.2.2.2.2.1.2.1,v11.2.2.2.2.2.2.2.2.2.2.2.1.2.2.1,()),())).bind
                 fun
                  (v12 :
                   Unit ×
                    Unit ×
                     Unit ×
                      Unit ×
                       List
                         (Int ×
                          Int ×
                           B8 ×
                            Int ×
                             Int ×
                              Int ×
                               Int ×
                                B8 ×
                                 Int ×
                                  Int ×
                                   Int ×
                                    B8 ×
                                     B8 ×
                                      B8 ×
                                       B8 ×
                                        Int ×
                                         B8 ×
                                          Int ×
                                           Int ×
                                            Int ×
                                             B8 ×
                                              B8×Int×Int×Int×B8×Int×Int×Unit) ×
                        Int ×
                         Int ×
                          Bool ×
                           (Int ×
                             Int ×
                              Int ×
                               B8 ×
                                Int ×
                                 Int ×
                                  Bool ×
                                   Int ×
                                    Int ×
                                     B8 ×
                                      Int ×
                                       Int ×
                                        Int ×
                                         Int ×
                                          B8 ×
                                           Int ×
                                            Int ×
                                             Int ×
                                              B8 ×
                                               B8 ×
                                                B8 ×
                                                 B8 ×
                                                  List (Int×B8×Int×B8×Unit) ×
                                                   Int ×
                                                    B8 ×
                                                     Int ×
                                                      Int ×
                                                       Int ×
                                                        Int ×
                                                         Int ×
                                                          Int×Int×Int×Int×Int×Int×Unit) ×
                            (Int ×
                              B8 ×
                               Int ×
                                Int ×
                                 Int ×
                                  Int ×
                                   B8 ×
                                    Int×Int×Int×B8×B8×B8×B8×Unit) ×
                             (Int ×
                               B8 ×
                                Int ×
                                 Int ×
                                  Int ×
                                   Int ×
                                    B8 ×
                                     Int×Int×Int×B8×B8×B8×B8×Unit) ×
                              (Int ×
                                List
                                  (Int ×
                                   B8 ×
                                    Int ×
                                     Int ×
                                      Int ×
                                       Int ×
                                        B8 ×
                                         Int×Int×Int×B8×B8×B8×B8×Unit) ×
                                 Int×Unit) ×
                               Unit) =>
                 (if v12.2.2.2.2.2.2.2.1=false then
                    some
                     ((),(),(),(),v12.2.2.2.2.1,v12.2.2.2.2.2.1,v12.2.2.2.2.2.2.1,
                       !decide (v12.2.2.2.2.2.2.2.2.2.2.1.2.2.2.1=v12.2.2.2.2.2.2.2.2.2.1.2.2.2.1),v12.2.2.2.2.2.2.2.2.1,
                       v12.2.2.2.2.2.2.2.2.2.1,v12.2.2.2.2.2.2.2.2.2.2.1,
                       (v12.2.2.2.2.2.2.2.2.2.2.2.1.1,v12.2.2.2.2.2.2.2.2.2.2.2.1.2.1,v12.2.2.2.2.2.2.2.2.2.2.2.1.2.2.1,()),())
                   else
                    some
                     ((),(),(),(),v12.2.2.2.2.1,v12.2.2.2.2.2.1,v12.2.2.2.2.2.2.1,true,v12.2.2.2.2.2.2.2.2.1,
                       v12.2.2.2.2.2.2.2.2.2.1,v12.2.2.2.2.2.2.2.2.2.2.1,
                       (v12.2.2.2.2.2.2.2.2.2.2.2.1.1,v12.2.2.2.2.2.2.2.2.2.2.2.1.2.1,v12.2.2.2.2.2.2.2.2.2.2.2.1.2.2.1,()),())).bind
                  fun
                   (v13 :
                    Unit ×
                     Unit ×
                      Unit ×
                       Unit ×
                        List
                          (Int ×
                           Int ×
                            B8 ×
                             Int ×
                              Int ×
                               Int ×
                                Int ×
                                 B8 ×
                                  Int ×
                                   Int ×
                                    Int ×
                                     B8 ×
                                      B8 ×
                                       B8 ×
                                        B8 ×
                                         Int ×
                                          B8 ×
                                           Int ×
                                            Int ×
                                             Int ×
                                              B8 ×
                                               B8×Int×Int×Int×B8×Int×Int×Unit) ×
                         Int ×
                          Int ×
                           Bool ×
                            (Int ×
                              Int ×
                               Int ×
                                B8 ×
                                 Int ×
                                  Int ×
                                   Bool ×
                                    Int ×
                                     Int ×
                                      B8 ×
                                       Int ×
                                        Int ×
                                         Int ×
                                          Int ×
                                           B8 ×
                                            Int ×
                                             Int ×
                                              Int ×
                                               B8 ×
                                                B8 ×
                                                 B8 ×
                                                  B8 ×
                                                   List (Int×B8×Int×B8×Unit) ×
                                                    Int ×
                                                     B8 ×
                                                      Int ×
                                                       Int ×
                                                        Int ×
                                                         Int ×
                                                          Int ×
                                                           Int ×
                                                            Int×Int×Int×Int×Int×Unit) ×
                             (Int ×
                               B8 ×
                                Int ×
                                 Int ×
                                  Int ×
                                   Int ×
                                    B8 ×
                                     Int×Int×Int×B8×B8×B8×B8×Unit) ×
                              (Int ×
                                B8 ×
                                 Int ×
                                  Int ×
                                   Int ×
                                    Int ×
                                     B8 ×
                                      Int×Int×Int×B8×B8×B8×B8×Unit) ×
                               (Int ×
                                 List
                                   (Int ×
                                    B8 ×
                                     Int ×
                                      Int ×
                                       Int ×
                                        Int ×
                                         B8 ×
                                          Int ×
                                           Int×Int×B8×B8×B8×B8×Unit) ×
                                  Int×Unit) ×
                                Unit) =>
                  (if v13.2.2.2.2.2.2.2.1=false then
                     some
                      ((),(),(),(),v13.2.2.2.2.1,v13.2.2.2.2.2.1,v13.2.2.2.2.2.2.1,
                        !decide (v13.2.2.2.2.2.2.2.2.2.2.1.2.2.2.2.1=v13.2.2.2.2.2.2.2.2.2.1.2.2.2.2.1),v13.2.2.2.2.2.2.2.2.1,
                        v13.2.2.2.2.2.2.2.2.2.1,v13.2.2.2.2.2.2.2.2.2.2.1,
                        (v13.2.2.2.2.2.2.2.2.2.2.2.1.1,v13.2.2.2.2.2.2.2.2.2.2.2.1.2.1,v13.2.2.2.2.2.2.2.2.2.2.2.1.2.2.1,()),())
                    else
                     some
                      ((),(),(),(),v13.2.2.2.2.1,v13.2.2.2.2.2.1,v13.2.2.2.2.2.2.1,true,v13.2.2.2.2.2.2.2.2.1,
                        v13.2.2.2.2.2.2.2.2.2.1,v13.2.2.2.2.2.2.2.2.2.2.1,
                        (v13.2.2.2.2.2.2.2.2.2.2.2.1.1,v13.2.2.2.2.2.2.2.2.2.2.2.1.2.1,v13.2.2.2.2.2.2.2.2.2.2.2.1.2.2.1,()),())).bind
                   fun
                    (v14 :
                     Unit ×
                      Unit ×
                       Unit ×
                        Unit ×
                         List
                           (Int ×
                            Int ×
                             B8 ×
                              Int ×
                               Int ×
                                Int ×
                                 Int ×
                                  B8 ×
                                   Int ×
                                    Int ×
                                     Int ×
                                      B8 ×
                                       B8 ×
                                        B8 ×
                                         B8 ×
                                          Int ×
                                           B8 ×
                                            Int ×
                                             Int ×
                                              Int ×
                                               B8 ×
                                                B8×Int×Int×Int×B8×Int×Int×Unit) ×
                          Int ×
                           Int ×
                            Bool ×
                             (Int ×
                               Int ×
                                Int ×
                                 B8 ×
                                  Int ×
                                   Int ×
                                    Bool ×
                                     Int ×
                                      Int ×
                                       B8 ×
                                        Int ×
                                         Int ×
                                          Int ×
                                           Int ×
                                            B8 ×
                                             Int ×
                                              Int ×
                                               Int ×
                                                B8 ×
                                                 B8 ×
                                                  B8 ×
                                                   B8 ×
                                                    List (Int×B8×Int×B8×Unit) ×
                                                     Int ×
                                                      B8 ×
                                                       Int ×
                                                        Int ×
                                                         Int ×
                                                          Int ×
                                                           Int ×
                                                            Int ×
                                                             Int×Int×Int×Int×Int×Unit) ×
                              (Int ×
                                B8 ×
                                 Int ×
                                  Int ×
                                   Int ×
                                    Int ×
                                     B8 ×
                                      Int×Int×Int×B8×B8×B8×B8×Unit) ×
                               (Int ×
                                 B8 ×
                                  Int ×
                                   Int ×
                                    Int ×
                                     Int ×
                                      B8 ×
                                       Int×Int×Int×B8×B8×B8×B8×Unit) ×
                                (Int ×
                                  List
                                    (Int ×
                                     B8 ×
                                      Int ×
                                       Int ×
                                        Int ×
                                         Int ×
                                          B8 ×
                                           Int ×
                                            Int×Int×B8×B8×B8×B8×Unit) ×
                                   Int×Unit) ×
                                 Unit) =>
                   (if v14.2.2.2.2.2.2.2.1=false then
                      some
                       ((),(),(),(),v14.2.2.2.2.1,v14.2.2.2.2.2.1,v14.2.2.2.2.2.2.1,
                         !decide (v14.2.2.2.2.2.2.2.2.2.2.1.2.2.2.2.2.2.1=v14.2.2.2.2.2.2.2.2.2.1.2.2.2.2.2.2.1),
                         v14.2.2.2.2.2.2.2.2.1,v14.2.2.2.2.2.2.2.2.2.1,v14.2.2.2.2.2.2.2.2.2.2.1,
                         (v14.2.2.2.2.2.2.2.2.2.2.2.1.1,v14.2.2.2.2.2.2.2.2.2.2.2.1.2.1,v14.2.2.2.2.2.2.2.2.2.2.2.1.2.2.1,()),())
                     else
                      some
                       ((),(),(),(),v14.2.2.2.2.1,v14.2.2.2.2.2.1,v14.2.2.2.2.2.2.1,true,v14.2.2.2.2.2.2.2.2.1,
                         v14.2.2.2.2.2.2.2.2.2.1,v14.2.2.2.2.2.2.2.2.2.2.1,
                         (v14.2.2.2.2.2.2.2.2.2.2.2.1.1,v14.2.2.2.2.2.2.2.2.2.2.2.1.2.1,v14.2.2.2.2.2.2.2.2.2.2.2.1.2.2.1,()),
                         ())).bind
                    fun
                     (v15 :
                      Unit ×
                       Unit ×
                        Unit ×
                         Unit ×
                          List
                            (Int ×
                             Int ×
                              B8 ×
                               Int ×
                                Int ×
                                 Int ×
                                  Int ×
                                   B8 ×
                                    Int ×
                                     Int ×
                                      Int ×
                                       B8 ×
                                        B8 ×
                                         B8 ×
                                          B8 ×
                                           Int ×
                                            B8 ×
                                             Int ×
                                              Int ×
                                               Int ×
                                                B8 ×
                                                 B8 ×
                                                  Int×Int×Int×B8×Int×Int×Unit) ×
                           Int ×
                            Int ×
                             Bool ×
                              (Int ×
                                Int ×
                                 Int ×
                                  B8 ×
                                   Int ×
                                    Int ×
                                     Bool ×
                                      Int ×
                                       Int ×
                                        B8 ×
                                         Int ×
                                          Int ×
                                           Int ×
                                            Int ×
                                             B8 ×
                                              Int ×
                                               Int ×
                                                Int ×
                                                 B8 ×
                                                  B8 ×
                                                   B8 ×
                                                    B8 ×
                                                     List (Int×B8×Int×B8×Unit) ×
                                                      Int ×
                                                       B8 ×
                                                        Int ×
                                                         Int ×
                                                          Int ×
                                                           Int ×
                                                            Int ×
                                                             Int ×
                                                              Int ×
                                                               Int×Int×Int×Int×Unit) ×
                               (Int ×
                                 B8 ×
                                  Int ×
                                   Int ×
                                    Int ×
                                     Int ×
                                      B8 ×
                                       Int×Int×Int×B8×B8×B8×B8×Unit) ×
                                (Int ×
                                  B8 ×
                                   Int ×
                                    Int ×
                                     Int ×
                                      Int ×
                                       B8 ×
                                        Int×Int×Int×B8×B8×B8×B8×Unit) ×
                                 (Int ×
                                   List
                                     (Int ×
                                      B8 ×
                                       Int ×
                                        Int ×
                                         Int ×
                                          Int ×
                                           B8 ×
                                            Int ×
                                             Int ×
                                              Int×B8×B8×B8×B8×Unit) ×
                                    Int×Unit) ×
                                  Unit) =>
                    (if v15.2.2.2.2.2.2.2.1=false then
                       (cf F
                          ((v15.2.2.2.2.2.2.2.2.2.2.2.1.1,v15.2.2.2.2.2.2.2.2.2.2.2.1.2.1,v15.2.2.2.2.2.2.2.2.2.2.2.1.2.2.1,()),1,
                            v15.2.2.2.2.2.2.2.2.2.2.1)).bind
                        fun
                         (v16 :
                          Int ×
                           Int ×
                            List
                              (Int ×
                               B8 ×
                                Int ×
                                 Int ×
                                  Int ×
                                   Int ×
                                    B8 ×
                                     Int×Int×Int×B8×B8×B8×B8×Unit) ×
                             Int×Unit) =>
                        some
                         ((),(),v15.2.2.2.2.1,v15.2.2.2.2.2.1,v15.2.2.2.2.2.2.1, !decide (v16.1=0),v15.2.2.2.2.2.2.2.2.1,
                           v15.2.2.2.2.2.2.2.2.2.1,())
                      else
                       some
                        ((),(),v15.2.2.2.2.1,v15.2.2.2.2.2.1,v15.2.2.2.2.2.2.1,true,v15.2.2.2.2.2.2.2.2.1,
                          v15.2.2.2.2.2.2.2.2.2.1,())).bind
                     fun
                      (v17 :
                       Unit ×
                        Unit ×
                         List
                           (Int ×
                            Int ×
                             B8 ×
                              Int ×
                               Int ×
                                Int ×
                                 Int ×
                                  B8 ×
                                   Int ×
                                    Int ×
                                     Int ×
                                      B8 ×
                                       B8 ×
                                        B8 ×
                                         B8 ×
                                          Int ×
                                           B8 ×
                                            Int ×
                                             Int ×
                                              Int ×
                                               B8 ×
                                                B8×Int×Int×Int×B8×Int×Int×Unit) ×
                          Int ×
                           Int ×
                            Bool ×
                             (Int ×
                               Int ×
                                Int ×
                                 B8 ×
                                  Int ×
                                   Int ×
                                    Bool ×
                                     Int ×
                                      Int ×
                                       B8 ×
                                        Int ×
                                         Int ×
                                          Int ×
                                           Int ×
                                            B8 ×
                                             Int ×
                                              Int ×
                                               Int ×
                                                B8 ×
                                                 B8 ×
                                                  B8 ×
                                                   B8 ×
                                                    List (Int×B8×Int×B8×Unit) ×
                                                     Int ×
                                                      B8 ×
                                                       Int ×
                                                        Int ×
                                                         Int ×
                                                          Int ×
                                                           Int ×
                                                            Int ×
                                                             Int×Int×Int×Int×Int×Unit) ×
                              (Int ×
                                B8 ×
                                 Int ×
                                  Int ×
                                   Int ×
                                    Int ×
                                     B8 ×
                                      Int×Int×Int×B8×B8×B8×B8×Unit) ×
                               Unit) =>
                     if v17.2.2.2.2.2.1=true then some (Sum.inr (false,()))
                     else some (Sum.inl ((),(),v17.2.2.1,v17.2.2.2.1,v17.2.2.2.2.1,v17.2.2.2.2.2.2.1,v17.2.2.2.2.2.2.2.1,()))).bind
           fun
            (v18 :
             Unit ×
               Unit ×
                List
                  (Int ×
                   Int ×
                    B8 ×
                     Int ×
                      Int ×
                       Int ×
                        Int ×
                         B8 ×
                          Int ×
                           Int ×
                            Int ×
                             B8 ×
                              B8 ×
                               B8 ×
                                B8 ×
                                 Int ×
                                  B8 ×
                                   Int ×
                                    Int ×
                                     Int×B8×B8×Int×Int×Int×B8×Int×Int×Unit) ×
                 Int ×
                  Int ×
                   (Int ×
                     Int ×
                      Int ×
                       B8 ×
                        Int ×
                         Int ×
                          Bool ×
                           Int ×
                            Int ×
                             B8 ×
                              Int ×
                               Int ×
                                Int ×
                                 Int ×
                                  B8 ×
                                   Int ×
                                    Int ×
                                     Int ×
                                      B8 ×
                                       B8 ×
                                        B8 ×
                                         B8 ×
                                          List (Int×B8×Int×B8×Unit) ×
                                           Int ×
                                            B8 ×
                                             Int ×
                                              Int×Int×Int×Int×Int×Int×Int×Int×Int×Int×Unit) ×
                    (Int ×
                      B8 ×
                       Int ×
                        Int×Int×Int×B8×Int×Int×Int×B8×B8×B8×B8×Unit) ×
                     Unit ⊕
              Bool×Unit) =>
           dh v18
            (fun
              (v19 :
               Unit ×
                Unit ×
                 List
                   (Int ×
                    Int ×
                     B8 ×
                      Int ×
                       Int ×
                        Int ×
                         Int ×
                          B8 ×
                           Int ×
                            Int ×
                             Int ×
                              B8 ×
                               B8 ×
                                B8 ×
                                 B8 ×
                                  Int ×
                                   B8 ×
                                    Int ×
                                     Int ×
                                      Int×B8×B8×Int×Int×Int×B8×Int×Int×Unit) ×
                  Int ×
                   Int ×
                    (Int ×
                      Int ×
                       Int ×
                        B8 ×
                         Int ×
                          Int ×
                           Bool ×
                            Int ×
                             Int ×
                              B8 ×
                               Int ×
                                Int ×
                                 Int ×
                                  Int ×
                                   B8 ×
                                    Int ×
                                     Int ×
                                      Int ×
                                       B8 ×
                                        B8 ×
                                         B8 ×
                                          B8 ×
                                           List (Int×B8×Int×B8×Unit) ×
                                            Int ×
                                             B8 ×
                                              Int ×
                                               Int ×
                                                Int×Int×Int×Int×Int×Int×Int×Int×Int×Unit) ×
                     (Int ×
                       B8 ×
                        Int ×
                         Int×Int×Int×B8×Int×Int×Int×B8×B8×B8×B8×Unit) ×
                      Unit) =>
             some (Sum.inl ((),(),v19.2.2.1,v19.2.2.2.1,IntKind.i64.wrap (v19.2.2.2.2.1+1),v19.2.2.2.2.2.1,v19.2.2.2.2.2.2.1,())))
            fun (v20:Bool×Unit)=>some (Sum.inr (Sum.inr (v20.1,())))
         else some (Sum.inr (Sum.inl ()))
noncomputable def cW (F:Nat) (x:((Int)×(Int)×(Int)×B8×(Int)×(Int)×(Bool)×(Int)×(Int)×B8×(Int)×(Int)×(Int)×(Int)×B8×(Int)×(Int)×(Int)×B8×B8×B8×B8×(List (El .ph))×(Int)×B8×(Int)×(Int)×(Int)×(Int)×(Int)×(Int)×(Int)×(Int)×(Int)×(Int)×(Int)×Unit)):Option (Bool):=(dE F ()).bind fun (v0:Bool)=>if (!v0)=true then some false else ((dF F x).bind fun (v1:Bool)=>if (!v1)=false then (cq F (x.2.2.2.2.2.2.2.2.1,x.2.2.2.2.2.2.2.2.2.1,x.2.2.2.2.2.2.2.2.2.2.1,x.2.2.2.2.2.2.2.2.2.2.2.1,x.2.2.2.2.2.2.2.2.2.2.2.2.1,x.2.2.2.2.2.2.2.2.2.2.2.2.2.1,x.2.2.2.2.2.2.2.2.2.2.2.2.2.2.1,x.2.2.2.2.2.2.2.2.2.2.2.2.2.2.2.1,x.2.2.2.2.2.2.2.2.2.2.2.2.2.2.2.2.1,x.2.2.2.2.2.2.2.2.2.2.2.2.2.2.2.2.2.1,x.2.2.2.2.2.2.2.2.2.2.2.2.2.2.2.2.2.2.1,x.2.2.2.2.2.2.2.2.2.2.2.2.2.2.2.2.2.2.2.1,x.2.2.2.2.2.2.2.2.2.2.2.2.2.2.2.2.2.2.2.2.1,x.2.2.2.2.2.2.2.2.2.2.2.2.2.2.2.2.2.2.2.2.2.1,())).bind fun (v2:Bool)=>some ((),(), !v2,x,(x.2.2.2.2.2.2.2.2.1,x.2.2.2.2.2.2.2.2.2.1,x.2.2.2.2.2.2.2.2.2.2.1,x.2.2.2.2.2.2.2.2.2.2.2.1,x.2.2.2.2.2.2.2.2.2.2.2.2.1,x.2.2.2.2.2.2.2.2.2.2.2.2.2.1,x.2.2.2.2.2.2.2.2.2.2.2.2.2.2.1,x.2.2.2.2.2.2.2.2.2.2.2.2.2.2.2.1,x.2.2.2.2.2.2.2.2.2.2.2.2.2.2.2.2.1,x.2.2.2.2.2.2.2.2.2.2.2.2.2.2.2.2.2.1,x.2.2.2.2.2.2.2.2.2.2.2.2.2.2.2.2.2.2.1,x.2.2.2.2.2.2.2.2.2.2.2.2.2.2.2.2.2.2.2.1,x.2.2.2.2.2.2.2.2.2.2.2.2.2.2.2.2.2.2.2.2.1,x.2.2.2.2.2.2.2.2.2.2.2.2.2.2.2.2.2.2.2.2.2.1,()),()) else some ((),(),true,x,(x.2.2.2.2.2.2.2.2.1,x.2.2.2.2.2.2.2.2.2.1,x.2.2.2.2.2.2.2.2.2.2.1,x.2.2.2.2.2.2.2.2.2.2.2.1,x.2.2.2.2.2.2.2.2.2.2.2.2.1,x.2.2.2.2.2.2.2.2.2.2.2.2.2.1,x.2.2.2.2.2.2.2.2.2.2.2.2.2.2.1,x.2.2.2.2.2.2.2.2.2.2.2.2.2.2.2.1,x.2.2.2.2.2.2.2.2.2.2.2.2.2.2.2.2.1,x.2.2.2.2.2.2.2.2.2.2.2.2.2.2.2.2.2.1,x.2.2.2.2.2.2.2.2.2.2.2.2.2.2.2.2.2.2.1,x.2.2.2.2.2.2.2.2.2.2.2.2.2.2.2.2.2.2.2.1,x.2.2.2.2.2.2.2.2.2.2.2.2.2.2.2.2.2.2.2.2.1,x.2.2.2.2.2.2.2.2.2.2.2.2.2.2.2.2.2.2.2.2.2.1,()),())).bind fun (v3:Unit×Unit×Bool×(Int×Int×Int×B8×Int×Int×Bool×Int×Int×B8×Int×Int×Int×Int×B8×Int×Int×Int×B8×B8×B8×B8×List (Int×B8×Int×B8×Unit)×Int×B8×Int×Int×Int×Int×Int×Int×Int×Int×Int×Int×Int×Unit)×(Int×B8×Int×Int×Int×Int×B8×Int×Int×Int×B8×B8×B8×B8×Unit)×Unit)=>if v3.2.2.1=true then some true else ((iS F ((v3.2.2.2.1.1,v3.2.2.2.1.2.1,v3.2.2.2.1.2.2.1,v3.2.2.2.1.2.2.2.1,v3.2.2.2.1.2.2.2.2.1,v3.2.2.2.1.2.2.2.2.2.1,v3.2.2.2.1.2.2.2.2.2.2.1,v3.2.2.2.1.2.2.2.2.2.2.2.1,()),v3.2.2.2.2.1,v3.2.2.2.1.2.2.2.2.2.2.2.2.2.2.2.2.2.2.2.2.2.2.2.2.2.2.1,v3.2.2.2.1.2.2.2.2.2.2.2.2.2.2.2.2.2.2.2.2.2.2.2.2.2.2.2.2.2.2.2.2.2)).bind fun (v4:Int×Int×B8×Int×Int×Int×Int×B8×Int×Int×Int×B8×B8×B8×B8×Int×B8×Int×Int×Int×B8×B8×Int×Int×Int×B8×Int×Int×Unit)=>(mT F ((v3.2.2.2.1.1,v3.2.2.2.1.2.1,v3.2.2.2.1.2.2.1,v3.2.2.2.1.2.2.2.1,v3.2.2.2.1.2.2.2.2.1,v3.2.2.2.1.2.2.2.2.2.1,v3.2.2.2.1.2.2.2.2.2.2.1,v3.2.2.2.1.2.2.2.2.2.2.2.1,()),v3.2.2.2.2.1,v3.2.2.2.1.2.2.2.2.2.2.2.2.2.2.2.2.2.2.2.2.2.2.2.2.2.2.1,(v3.2.2.2.1.2.2.2.2.2.2.2.2.2.2.2.2.2.2.2.2.2.2.2.2.2.2.2.1,v3.2.2.2.1.2.2.2.2.2.2.2.2.2.2.2.2.2.2.2.2.2.2.2.2.2.2.2.2.1,v3.2.2.2.1.2.2.2.2.2.2.2.2.2.2.2.2.2.2.2.2.2.2.2.2.2.2.2.2.2.1,v3.2.2.2.1.2.2.2.2.2.2.2.2.2.2.2.2.2.2.2.2.2.2.2.2.2.2.2.2.2.2.1,v3.2.2.2.1.2.2.2.2.2.2.2.2.2.2.2.2.2.2.2.2.2.2.2.2.2.2.2.2.2.2.2.1,v3.2.2.2.1.2.2.2.2.2.2.2.2.2.2.2.2.2.2.2.2.2.2.2.2.2.2.2.2.2.2.2.2.1,()),v3.2.2.2.1.2.2.2.2.2.2.2.2.2.2.2.2.2.2.2.2.2.2.2.2.2.2.2.2.2.2.2.2.2)).bind fun (v5:Int×Int×B8×Int×Int×Int×Int×B8×Int×Int×Int×B8×B8×B8×B8×Int×B8×Int×Int×Int×B8×B8×Int×Int×Int×B8×Int×Int×Unit)=>some ((),(),[v4,v5],(↑[v4,v5].length:Int),0,v3.2.2.2.1,v3.2.2.2.2.1,())).bind fun (v6:Unit×Unit×List (Int×Int×B8×Int×Int×Int×Int×B8×Int×Int×Int×B8×B8×B8×B8×Int×B8×Int×Int×Int×B8×B8×Int×Int×Int×B8×Int×Int×Unit)×Int×Int×(Int×Int×Int×B8×Int×Int×Bool×Int×Int×B8×Int×Int×Int×Int×B8×Int×Int×Int×B8×B8×B8×B8×List (Int×B8×Int×B8×Unit)×Int×B8×Int×Int×Int×Int×Int×Int×Int×Int×Int×Int×Int×Unit)×(Int×B8×Int×Int×Int×Int×B8×Int×Int×Int×B8×B8×B8×B8×Unit)×Unit)=>(bq (bC F) F ((),(),v6.2.2)).bind fun (v21:Unit ⊕ Bool×Unit)=>dh v21 (fun (v22:Unit)=>some true) fun (v23:Bool×Unit)=>some v23.1
theorem lu (F:Nat):Ctr TT Tryz.prog 12 (aj TT lr (cW F)) :=
 al F (code:=ak 12) Tryz.func12 (af (af (af (af (af (af (af ah (l9 F)) (my F)) (jx F)) (vC F)) (Db F)) (ql F)) (jI F)) fun x=>by kernel_rfl
end Go.Vm
