/-
  THE ABSTRACT FORM of functions of the program, written by program (ag.py) off the seat's own operations. Not trusted: each is checked against the seat's program where it is linked.
-/
import Derived.Test.YtimnnpimflgonaaAgDefs
namespace Go.Ag

def c_spec_l1In : ACode :=
  (.seq (.region [⟨0, some 6, .mv (.c (.bool false)), none, []⟩])
  (.seq (.region [⟨0, some 7, .mv (.t 0), none, []⟩,
    ⟨1, some 8, .mv (.t 1), none, []⟩,
    ⟨2, some 9, .bin .geq (.t 7) (.t 8), none, []⟩,
    ⟨3, some 10, .mv (.t 9), none, []⟩,
    ⟨4, some 11, .mv (.t 0), (some (10, true)), []⟩,
    ⟨5, some 12, .mv (.t 2), (some (10, true)), []⟩,
    ⟨6, some 13, .bin .leq (.t 11) (.t 12), (some (10, true)), []⟩,
    ⟨7, some 14, .pick (.t 10) (.t 13) (.c (.bool false)), none, []⟩,
    ⟨8, some 6, .mv (.t 14), none, []⟩])
  .ret))
def f_spec_l1In : AFun := ⟨3, 15, 0, true, [.tmp 6], c_spec_l1In⟩
@[irreducible] def s_spec_l1In : CallSem := funSem f_spec_l1In

def c_spec_IsWordCode : ACode :=
  (.seq (.region [⟨0, some 2, .mv (.c (.bool false)), none, []⟩])
  (.seq (.region [⟨0, some 3, .mv (.t 0), none, []⟩,
    ⟨1, some 4, .call s_spec_l1In [(.t 3), (.c (.int .i64 1)), (.c (.int .i64 36))], none, []⟩,
    ⟨2, some 5, .mv (.t 4), none, []⟩,
    ⟨3, some 6, .mv (.t 0), (some (5, false)), []⟩,
    ⟨4, some 7, .bin .eql (.t 6) (.c (.int .i64 39)), (some (5, false)), []⟩,
    ⟨5, some 8, .pick (.t 5) (.c (.bool true)) (.t 7), none, []⟩,
    ⟨6, some 9, .mv (.t 8), none, []⟩,
    ⟨7, some 10, .mv (.t 0), (some (9, false)), []⟩,
    ⟨8, some 11, .bin .eql (.t 10) (.c (.int .i64 42)), (some (9, false)), []⟩,
    ⟨9, some 12, .pick (.t 9) (.c (.bool true)) (.t 11), none, []⟩,
    ⟨10, some 2, .mv (.t 12), none, []⟩])
  .ret))
def f_spec_IsWordCode : AFun := ⟨1, 13, 0, true, [.tmp 2], c_spec_IsWordCode⟩
@[irreducible] def s_spec_IsWordCode : CallSem := funSem f_spec_IsWordCode

def c_impl_IsWordCode : ACode :=
  (.seq (.region [⟨0, some 2, .mv (.c (.bool false)), none, []⟩])
  (.seq (.region [⟨0, some 3, .mv (.t 0), none, []⟩,
    ⟨1, some 4, .bin .geq (.t 3) (.c (.int .i64 1)), none, []⟩,
    ⟨2, some 5, .mv (.t 4), none, []⟩,
    ⟨3, some 6, .mv (.t 0), (some (5, true)), []⟩,
    ⟨4, some 7, .bin .leq (.t 6) (.c (.int .i64 36)), (some (5, true)), []⟩,
    ⟨5, some 8, .pick (.t 5) (.t 7) (.c (.bool false)), none, []⟩,
    ⟨6, some 9, .mv (.t 8), none, []⟩,
    ⟨7, some 10, .mv (.t 0), (some (9, false)), []⟩,
    ⟨8, some 11, .bin .eql (.t 10) (.c (.int .i64 39)), (some (9, false)), []⟩,
    ⟨9, some 12, .pick (.t 9) (.c (.bool true)) (.t 11), none, []⟩,
    ⟨10, some 13, .mv (.t 12), none, []⟩,
    ⟨11, some 14, .mv (.t 0), (some (13, false)), []⟩,
    ⟨12, some 15, .bin .eql (.t 14) (.c (.int .i64 42)), (some (13, false)), []⟩,
    ⟨13, some 16, .pick (.t 13) (.c (.bool true)) (.t 15), none, []⟩,
    ⟨14, some 2, .mv (.t 16), none, []⟩])
  .ret))
def f_impl_IsWordCode : AFun := ⟨1, 17, 0, true, [.tmp 2], c_impl_IsWordCode⟩
@[irreducible] def s_impl_IsWordCode : CallSem := funSem f_impl_IsWordCode

def c_laws_FnExactIsWordCode : ACode :=
  (.seq (.region [⟨0, some 2, .mv (.c (.bool false)), none, []⟩])
  (.seq (.region [⟨0, some 5, .mv (.t 0), none, []⟩,
    ⟨1, some 6, .call s_spec_IsWordCode [(.t 5)], none, []⟩,
    ⟨2, some 3, .mv (.t 6), none, []⟩])
  (.seq (.region [⟨0, some 7, .mv (.t 0), none, []⟩,
    ⟨1, some 8, .call s_impl_IsWordCode [(.t 7)], none, []⟩,
    ⟨2, some 4, .mv (.t 8), none, []⟩])
  (.seq (.seq (.region [⟨0, some 9, .mv (.t 4), none, []⟩,
    ⟨1, some 10, .mv (.t 3), none, []⟩,
    ⟨2, some 11, .eqB true (.t 9) (.t 10), none, []⟩])
  (.cond (.t 11) (.seq (.region [⟨0, some 2, .mv (.c (.bool false)), none, []⟩])
  .ret) .skip))
  (.seq (.region [⟨0, some 2, .mv (.c (.bool true)), none, []⟩])
  .ret)))))
def f_laws_FnExactIsWordCode : AFun := ⟨1, 12, 0, true, [.tmp 2], c_laws_FnExactIsWordCode⟩
@[irreducible] def s_laws_FnExactIsWordCode : CallSem := funSem f_laws_FnExactIsWordCode

def c_laws_toTiming : ACode :=
  (.seq (.region [⟨0, some 1, .boxB 0 3 (.t 0), none, []⟩,
    ⟨1, some 2, .allocB 1 [(.int .i64 0), (.int .i64 0), (.int .i64 0)], none, []⟩])
  (.seq (.region [⟨0, some 3, .allocB 2 [(.int .i64 0), (.int .i64 0), (.int .i64 0)], none, []⟩])
  (.seq (.region [⟨0, some 4, .fieldA 0 (.t 1), none, []⟩,
    ⟨1, some 5, .loadB 0 none (.t 4), none, []⟩,
    ⟨2, some 6, .fieldA 0 (.t 3), none, []⟩,
    ⟨3, none, .storeB 2 1 (.t 6) (.t 5), none, []⟩])
  (.seq (.region [⟨0, some 7, .fieldA 1 (.t 1), none, []⟩,
    ⟨1, some 8, .loadB 0 none (.t 7), none, []⟩,
    ⟨2, some 9, .fieldA 1 (.t 3), none, []⟩,
    ⟨3, none, .storeB 2 1 (.t 9) (.t 8), none, []⟩])
  (.seq (.region [⟨0, some 10, .fieldA 2 (.t 1), none, []⟩,
    ⟨1, some 11, .loadB 0 none (.t 10), none, []⟩,
    ⟨2, some 12, .fieldA 2 (.t 3), none, []⟩,
    ⟨3, none, .storeB 2 1 (.t 12) (.t 11), none, []⟩])
  (.seq (.region [⟨0, some 13, .loadB 2 (some 3) (.t 3), none, []⟩,
    ⟨1, none, .storeB 1 3 (.t 2) (.t 13), none, []⟩])
  .ret))))))
def f_laws_toTiming : AFun := ⟨1, 14, 3, true, [.cell 2 (some 3)], c_laws_toTiming⟩
@[irreducible] def s_laws_toTiming : CallSem := funSem f_laws_toTiming

def c_spec_IsTiming : ACode :=
  (.seq (.region [⟨0, some 1, .boxB 0 3 (.t 0), none, []⟩,
    ⟨1, some 2, .mv (.c (.bool false)), none, []⟩])
  (.seq (.region [⟨0, some 3, .fieldA 0 (.t 1), none, []⟩,
    ⟨1, some 4, .loadB 0 none (.t 3), none, []⟩,
    ⟨2, some 5, .call s_spec_l1In [(.t 4), (.c (.int .i64 1)), (.c (.int .i64 1000))], none, []⟩,
    ⟨3, some 6, .mv (.t 5), none, []⟩,
    ⟨4, some 7, .fieldA 1 (.t 1), (some (6, true)), []⟩,
    ⟨5, some 8, .loadB 0 none (.t 7), (some (6, true)), []⟩,
    ⟨6, some 9, .call s_spec_l1In [(.t 8), (.c (.int .i64 0)), (.c (.int .i64 1000))], (some (6, true)), []⟩,
    ⟨7, some 10, .pick (.t 6) (.t 9) (.c (.bool false)), none, []⟩,
    ⟨8, some 11, .mv (.t 10), none, []⟩,
    ⟨9, some 12, .fieldA 2 (.t 1), (some (11, true)), []⟩,
    ⟨10, some 13, .loadB 0 none (.t 12), (some (11, true)), []⟩,
    ⟨11, some 14, .call s_spec_l1In [(.t 13), (.c (.int .i64 0)), (.c (.int .i64 2))], (some (11, true)), []⟩,
    ⟨12, some 15, .pick (.t 11) (.t 14) (.c (.bool false)), none, []⟩,
    ⟨13, some 2, .mv (.t 15), none, []⟩])
  .ret))
def f_spec_IsTiming : AFun := ⟨1, 16, 1, true, [.tmp 2], c_spec_IsTiming⟩
@[irreducible] def s_spec_IsTiming : CallSem := funSem f_spec_IsTiming

def c_impl_IsTiming : ACode :=
  (.seq (.region [⟨0, some 1, .boxB 0 3 (.t 0), none, []⟩,
    ⟨1, some 2, .mv (.c (.bool false)), none, []⟩])
  (.seq (.region [⟨0, some 3, .fieldA 0 (.t 1), none, []⟩,
    ⟨1, some 4, .loadB 0 none (.t 3), none, []⟩,
    ⟨2, some 5, .bin .geq (.t 4) (.c (.int .i64 1)), none, []⟩,
    ⟨3, some 6, .mv (.t 5), none, []⟩,
    ⟨4, some 7, .fieldA 0 (.t 1), (some (6, true)), []⟩,
    ⟨5, some 8, .loadB 0 none (.t 7), (some (6, true)), []⟩,
    ⟨6, some 9, .bin .leq (.t 8) (.c (.int .i64 1000)), (some (6, true)), []⟩,
    ⟨7, some 10, .pick (.t 6) (.t 9) (.c (.bool false)), none, []⟩,
    ⟨8, some 11, .mv (.t 10), none, []⟩,
    ⟨9, some 12, .fieldA 1 (.t 1), (some (11, true)), []⟩,
    ⟨10, some 13, .loadB 0 none (.t 12), (some (11, true)), []⟩,
    ⟨11, some 14, .bin .geq (.t 13) (.c (.int .i64 0)), (some (11, true)), []⟩,
    ⟨12, some 15, .pick (.t 11) (.t 14) (.c (.bool false)), none, []⟩,
    ⟨13, some 16, .mv (.t 15), none, []⟩,
    ⟨14, some 17, .fieldA 1 (.t 1), (some (16, true)), []⟩,
    ⟨15, some 18, .loadB 0 none (.t 17), (some (16, true)), []⟩,
    ⟨16, some 19, .bin .leq (.t 18) (.c (.int .i64 1000)), (some (16, true)), []⟩,
    ⟨17, some 20, .pick (.t 16) (.t 19) (.c (.bool false)), none, []⟩,
    ⟨18, some 21, .mv (.t 20), none, []⟩,
    ⟨19, some 22, .fieldA 2 (.t 1), (some (21, true)), []⟩,
    ⟨20, some 23, .loadB 0 none (.t 22), (some (21, true)), []⟩,
    ⟨21, some 24, .bin .geq (.t 23) (.c (.int .i64 0)), (some (21, true)), []⟩,
    ⟨22, some 25, .pick (.t 21) (.t 24) (.c (.bool false)), none, []⟩,
    ⟨23, some 26, .mv (.t 25), none, []⟩,
    ⟨24, some 27, .fieldA 2 (.t 1), (some (26, true)), []⟩,
    ⟨25, some 28, .loadB 0 none (.t 27), (some (26, true)), []⟩,
    ⟨26, some 29, .bin .leq (.t 28) (.c (.int .i64 2)), (some (26, true)), []⟩,
    ⟨27, some 30, .pick (.t 26) (.t 29) (.c (.bool false)), none, []⟩,
    ⟨28, some 2, .mv (.t 30), none, []⟩])
  .ret))
def f_impl_IsTiming : AFun := ⟨1, 31, 1, true, [.tmp 2], c_impl_IsTiming⟩
@[irreducible] def s_impl_IsTiming : CallSem := funSem f_impl_IsTiming

def c_laws_FnExactIsTiming : ACode :=
  (.seq (.region [⟨0, some 1, .boxB 0 3 (.t 0), none, []⟩,
    ⟨1, some 2, .mv (.c (.bool false)), none, []⟩])
  (.seq (.region [⟨0, some 5, .loadB 0 (some 3) (.t 1), none, []⟩,
    ⟨1, some 6, .call s_laws_toTiming [(.t 5)], none, []⟩,
    ⟨2, some 7, .call s_spec_IsTiming [(.t 6)], none, []⟩,
    ⟨3, some 3, .mv (.t 7), none, []⟩])
  (.seq (.region [⟨0, some 8, .loadB 0 (some 3) (.t 1), none, []⟩,
    ⟨1, some 9, .call s_laws_toTiming [(.t 8)], none, []⟩,
    ⟨2, some 10, .call s_impl_IsTiming [(.t 9)], none, []⟩,
    ⟨3, some 4, .mv (.t 10), none, []⟩])
  (.seq (.seq (.region [⟨0, some 11, .mv (.t 4), none, []⟩,
    ⟨1, some 12, .mv (.t 3), none, []⟩,
    ⟨2, some 13, .eqB true (.t 11) (.t 12), none, []⟩])
  (.cond (.t 13) (.seq (.region [⟨0, some 2, .mv (.c (.bool false)), none, []⟩])
  .ret) .skip))
  (.seq (.region [⟨0, some 2, .mv (.c (.bool true)), none, []⟩])
  .ret)))))
def f_laws_FnExactIsTiming : AFun := ⟨1, 14, 1, true, [.tmp 2], c_laws_FnExactIsTiming⟩
@[irreducible] def s_laws_FnExactIsTiming : CallSem := funSem f_laws_FnExactIsTiming

def c_laws_szIntS : ACode :=
  (.seq (.region [⟨0, some 4, .mv (.c (.int .i64 0)), none, []⟩])
  (.seq (.region [⟨0, some 5, .mv (.t 1), none, []⟩,
    ⟨1, some 6, .mv (.t 0), none, []⟩,
    ⟨2, some 7, .len (.t 6), none, []⟩,
    ⟨3, some 8, .bin .sub (.t 5) (.t 7), none, []⟩,
    ⟨4, some 1, .mv (.t 8), none, []⟩])
  (.seq (.seq (.region [⟨0, some 9, .mv (.t 1), none, []⟩,
    ⟨1, some 10, .bin .lss (.t 9) (.c (.int .i64 0)), none, []⟩])
  (.cond (.t 10) (.seq (.region [⟨0, some 4, .mv (.c (.int .i64 (-1))), none, []⟩])
  .ret) .skip))
  (.seq (.region [⟨0, some 11, .mv (.t 1), none, []⟩,
    ⟨1, some 4, .mv (.t 11), none, []⟩])
  .ret))))
def f_laws_szIntS : AFun := ⟨2, 12, 0, true, [.tmp 4], c_laws_szIntS⟩
@[irreducible] def s_laws_szIntS : CallSem := funSem f_laws_szIntS

def c_laws_szReport : ACode :=
  (.seq (.region [⟨0, some 2, .boxB 0 2 (.t 0), none, []⟩,
    ⟨1, some 4, .mv (.c (.int .i64 0)), none, []⟩])
  (.seq (.region [⟨0, some 5, .fieldA 1 (.t 2), none, []⟩,
    ⟨1, some 6, .loadB 0 none (.t 5), none, []⟩,
    ⟨2, some 7, .mv (.t 1), none, []⟩,
    ⟨3, some 8, .call s_laws_szIntS [(.t 6), (.t 7)], none, []⟩,
    ⟨4, some 1, .mv (.t 8), none, []⟩])
  (.seq (.seq (.region [⟨0, some 9, .mv (.t 1), none, []⟩,
    ⟨1, some 10, .bin .lss (.t 9) (.c (.int .i64 0)), none, []⟩])
  (.cond (.t 10) (.seq (.region [⟨0, some 4, .mv (.c (.int .i64 (-1))), none, []⟩])
  .ret) .skip))
  (.seq (.region [⟨0, some 11, .mv (.t 1), none, []⟩,
    ⟨1, some 4, .mv (.t 11), none, []⟩])
  .ret))))
def f_laws_szReport : AFun := ⟨2, 12, 1, true, [.tmp 4], c_laws_szReport⟩
@[irreducible] def s_laws_szReport : CallSem := funSem f_laws_szReport

def c_laws_toIntS : ACode :=
  (.seq (.region [⟨0, some 2, .mv (.c .nils), none, []⟩])
  (.seq (.region [⟨0, some 5, .mv (.t 0), none, []⟩,
    ⟨1, some 6, .len (.t 5), none, []⟩,
    ⟨2, some 7, .mkSlice 1 [(.int .i64 0)] (.t 6), none, []⟩,
    ⟨3, some 3, .mv (.t 7), none, []⟩])
  (.seq (.seq (.region [⟨0, some 4, .mv (.c (.int .i64 0)), none, []⟩])
  (.block 0 (.loop [0, 3, 4] (.seq (.seq (.region [⟨0, some 8, .mv (.t 4), none, []⟩,
    ⟨1, some 9, .mv (.t 0), none, []⟩,
    ⟨2, some 10, .len (.t 9), none, []⟩,
    ⟨3, some 11, .bin .lss (.t 8) (.t 10), none, []⟩])
  (.cond (.t 11) .skip (.exit 0)))
  (.seq (.block 1 (.region [⟨0, some 14, .mv (.t 3), none, []⟩,
    ⟨1, some 15, .mv (.t 4), none, []⟩,
    ⟨2, some 16, .mv (.t 0), none, []⟩,
    ⟨3, some 17, .mv (.t 4), none, []⟩,
    ⟨4, some 18, .indexA 1 (.t 16) (.t 17), none, []⟩,
    ⟨5, some 19, .loadH none (.t 18), none, []⟩,
    ⟨6, some 20, .indexA 1 (.t 14) (.t 15), none, []⟩,
    ⟨7, none, .storeH 1 (.t 20) (.t 19), none, []⟩]))
  (.region [⟨0, some 12, .mv (.t 4), none, []⟩,
    ⟨1, some 13, .bin .add (.t 12) (.c (.int .i64 1)), none, []⟩,
    ⟨2, some 4, .mv (.t 13), none, []⟩]))))))
  (.seq (.region [⟨0, some 21, .mv (.t 3), none, []⟩,
    ⟨1, some 2, .mv (.t 21), none, []⟩])
  .ret))))
def f_laws_toIntS : AFun := ⟨1, 22, 0, false, [.tmp 2], c_laws_toIntS⟩
@[irreducible] def s_laws_toIntS : CallSem := funSem f_laws_toIntS

def c_laws_toReport : ACode :=
  (.seq (.region [⟨0, some 1, .boxB 0 2 (.t 0), none, []⟩,
    ⟨1, some 2, .allocB 1 [(.int .i64 0), .nils], none, []⟩])
  (.seq (.region [⟨0, some 3, .allocB 2 [(.int .i64 0), .nils], none, []⟩])
  (.seq (.region [⟨0, some 4, .fieldA 0 (.t 1), none, []⟩,
    ⟨1, some 5, .loadB 0 none (.t 4), none, []⟩,
    ⟨2, some 6, .fieldA 0 (.t 3), none, []⟩,
    ⟨3, none, .storeB 2 1 (.t 6) (.t 5), none, []⟩])
  (.seq (.region [⟨0, some 7, .fieldA 1 (.t 1), none, []⟩,
    ⟨1, some 8, .loadB 0 none (.t 7), none, []⟩,
    ⟨2, some 9, .call s_laws_toIntS [(.t 8)], none, []⟩,
    ⟨3, some 10, .fieldA 1 (.t 3), none, []⟩,
    ⟨4, none, .storeB 2 1 (.t 10) (.t 9), none, []⟩])
  (.seq (.region [⟨0, some 11, .loadB 2 (some 2) (.t 3), none, []⟩,
    ⟨1, none, .storeB 1 2 (.t 2) (.t 11), none, []⟩])
  .ret)))))
def f_laws_toReport : AFun := ⟨1, 12, 3, false, [.cell 2 (some 2)], c_laws_toReport⟩
@[irreducible] def s_laws_toReport : CallSem := funSem f_laws_toReport

def c_spec_IsReport : ACode :=
  (.seq (.region [⟨0, some 1, .boxB 0 2 (.t 0), none, []⟩,
    ⟨1, some 2, .mv (.c (.bool false)), none, []⟩])
  (.seq (.seq (.region [⟨0, some 3, .mv (.c (.int .i64 0)), none, []⟩])
  (.block 0 (.loop [1, 3] (.seq (.seq (.region [⟨0, some 4, .mv (.t 3), none, []⟩,
    ⟨1, some 5, .fieldA 1 (.t 1), none, []⟩,
    ⟨2, some 6, .loadB 0 none (.t 5), none, []⟩,
    ⟨3, some 7, .len (.t 6), none, []⟩,
    ⟨4, some 8, .bin .lss (.t 4) (.t 7), none, []⟩])
  (.cond (.t 8) .skip (.exit 0)))
  (.seq (.block 1 (.seq (.region [⟨0, some 11, .fieldA 1 (.t 1), none, []⟩,
    ⟨1, some 12, .loadB 0 none (.t 11), none, [0]⟩,
    ⟨2, some 13, .mv (.t 3), none, []⟩,
    ⟨3, some 14, .indexA 1 (.t 12) (.t 13), none, [0, 1, 2]⟩,
    ⟨4, some 15, .loadH none (.t 14), none, [0, 1, 2, 3]⟩,
    ⟨5, some 16, .call s_spec_l1In [(.t 15), (.c (.int .i64 1)), (.c (.int .i64 56))], none, [0, 1, 2, 3, 4]⟩,
    ⟨6, some 17, .un .not (.t 16), none, [0, 1, 2, 3, 4, 5]⟩,
    ⟨7, some 18, .mv (.t 17), none, [0, 1, 2, 3, 4, 5, 6]⟩,
    ⟨8, some 19, .mv (.t 3), (some (18, false)), [0, 1, 2, 3, 4, 5, 6, 7]⟩,
    ⟨9, some 20, .bin .gtr (.t 19) (.c (.int .i64 0)), (some (18, false)), [0, 1, 2, 3, 4, 5, 6, 7, 8]⟩,
    ⟨10, some 21, .mv (.t 20), (some (18, false)), [0, 1, 2, 3, 4, 5, 6, 7, 8, 9]⟩,
    ⟨11, some 22, .fieldA 1 (.t 1), (some (21, true)), [0, 1, 2, 3, 4, 5, 6, 7, 8, 9, 10]⟩,
    ⟨12, some 23, .loadB 0 none (.t 22), (some (21, true)), [0, 1, 2, 3, 4, 5, 6, 7, 8, 9, 10, 11]⟩,
    ⟨13, some 24, .mv (.t 3), (some (21, true)), [0, 1, 2, 3, 4, 5, 6, 7, 8, 9, 10]⟩,
    ⟨14, some 25, .bin .sub (.t 24) (.c (.int .i64 1)), (some (21, true)), [0, 1, 2, 3, 4, 5, 6, 7, 8, 9, 10, 13]⟩,
    ⟨15, some 26, .indexA 1 (.t 23) (.t 25), (some (21, true)), [0, 1, 2, 3, 4, 5, 6, 7, 8, 9, 10, 11, 12, 13, 14]⟩,
    ⟨16, some 27, .loadH none (.t 26), (some (21, true)), [0, 1, 2, 3, 4, 5, 6, 7, 8, 9, 10, 11, 12, 13, 14, 15]⟩,
    ⟨17, some 28, .fieldA 1 (.t 1), (some (21, true)), [0, 1, 2, 3, 4, 5, 6, 7, 8, 9, 10]⟩,
    ⟨18, some 29, .loadB 0 none (.t 28), (some (21, true)), [0, 1, 2, 3, 4, 5, 6, 7, 8, 9, 10, 17]⟩,
    ⟨19, some 30, .mv (.t 3), (some (21, true)), [0, 1, 2, 3, 4, 5, 6, 7, 8, 9, 10]⟩,
    ⟨20, some 31, .indexA 1 (.t 29) (.t 30), (some (21, true)), [0, 1, 2, 3, 4, 5, 6, 7, 8, 9, 10, 17, 18, 19]⟩,
    ⟨21, some 32, .loadH none (.t 31), (some (21, true)), [0, 1, 2, 3, 4, 5, 6, 7, 8, 9, 10, 17, 18, 19, 20]⟩,
    ⟨22, some 33, .bin .geq (.t 27) (.t 32), (some (21, true)), [0, 1, 2, 3, 4, 5, 6, 7, 8, 9, 10, 11, 12, 13, 14, 15, 16, 17, 18, 19, 20, 21]⟩,
    ⟨23, some 34, .pick (.t 21) (.t 33) (.c (.bool false)), (some (18, false)), [0, 1, 2, 3, 4, 5, 6, 7, 8, 9, 10, 11, 12, 13, 14, 15, 16, 17, 18, 19, 20, 21, 22]⟩,
    ⟨24, some 35, .pick (.t 18) (.c (.bool true)) (.t 34), none, [0, 1, 2, 3, 4, 5, 6, 7, 8, 9, 10, 11, 12, 13, 14, 15, 16, 17, 18, 19, 20, 21, 22, 23]⟩])
  (.cond (.t 35) (.seq (.region [⟨0, some 2, .mv (.c (.bool false)), none, []⟩])
  .ret) .skip)))
  (.region [⟨0, some 9, .mv (.t 3), none, []⟩,
    ⟨1, some 10, .bin .add (.t 9) (.c (.int .i64 1)), none, []⟩,
    ⟨2, some 3, .mv (.t 10), none, []⟩]))))))
  (.seq (.region [⟨0, some 36, .fieldA 0 (.t 1), none, []⟩,
    ⟨1, some 37, .loadB 0 none (.t 36), none, []⟩,
    ⟨2, some 38, .call s_spec_l1In [(.t 37), (.c (.int .i64 0)), (.c (.int .i64 15))], none, []⟩,
    ⟨3, some 2, .mv (.t 38), none, []⟩])
  .ret)))
def f_spec_IsReport : AFun := ⟨1, 39, 1, true, [.tmp 2], c_spec_IsReport⟩
@[irreducible] def s_spec_IsReport : CallSem := funSem f_spec_IsReport

def c_impl_isCode : ACode :=
  (.seq (.region [⟨0, some 2, .mv (.c (.bool false)), none, []⟩])
  (.seq (.region [⟨0, some 3, .mv (.t 0), none, []⟩,
    ⟨1, some 4, .bin .geq (.t 3) (.c (.int .i64 1)), none, []⟩,
    ⟨2, some 5, .mv (.t 4), none, []⟩,
    ⟨3, some 6, .mv (.t 0), (some (5, true)), []⟩,
    ⟨4, some 7, .bin .leq (.t 6) (.c (.int .i64 56)), (some (5, true)), []⟩,
    ⟨5, some 8, .pick (.t 5) (.t 7) (.c (.bool false)), none, []⟩,
    ⟨6, some 2, .mv (.t 8), none, []⟩])
  .ret))
def f_impl_isCode : AFun := ⟨1, 9, 0, true, [.tmp 2], c_impl_isCode⟩
@[irreducible] def s_impl_isCode : CallSem := funSem f_impl_isCode

def c_impl_IsReport : ACode :=
  (.seq (.region [⟨0, some 1, .boxB 0 2 (.t 0), none, []⟩,
    ⟨1, some 2, .mv (.c (.bool false)), none, []⟩])
  (.seq (.seq (.region [⟨0, some 5, .fieldA 0 (.t 1), none, []⟩,
    ⟨1, some 6, .loadB 0 none (.t 5), none, []⟩,
    ⟨2, some 7, .bin .lss (.t 6) (.c (.int .i64 0)), none, []⟩,
    ⟨3, some 8, .mv (.t 7), none, []⟩,
    ⟨4, some 9, .fieldA 0 (.t 1), (some (8, false)), []⟩,
    ⟨5, some 10, .loadB 0 none (.t 9), (some (8, false)), []⟩,
    ⟨6, some 11, .bin .gtr (.t 10) (.c (.int .i64 15)), (some (8, false)), []⟩,
    ⟨7, some 12, .pick (.t 8) (.c (.bool true)) (.t 11), none, []⟩])
  (.cond (.t 12) (.seq (.region [⟨0, some 2, .mv (.c (.bool false)), none, []⟩])
  .ret) .skip))
  (.seq (.seq (.region [⟨0, some 13, .fieldA 1 (.t 1), none, []⟩,
    ⟨1, some 14, .loadB 0 none (.t 13), none, []⟩,
    ⟨2, some 15, .len (.t 14), none, []⟩,
    ⟨3, some 16, .mv (.c (.int .i64 0)), none, []⟩])
  (.block 0 (.loop [1, 14, 15, 16] (.seq (.region [⟨0, some 17, .bin .lss (.t 16) (.t 15), none, []⟩])
  (.seq (.cond (.t 17) .skip (.exit 0))
  (.seq (.block 1 (.seq (.region [⟨0, some 18, .mv (.t 16), none, []⟩,
    ⟨1, some 19, .indexA 1 (.t 14) (.t 16), none, []⟩,
    ⟨2, some 20, .loadH none (.t 19), none, []⟩,
    ⟨3, some 3, .mv (.t 18), none, []⟩,
    ⟨4, some 4, .mv (.t 20), none, []⟩])
  (.seq (.region [⟨0, some 21, .mv (.t 4), none, []⟩,
    ⟨1, some 22, .call s_impl_isCode [(.t 21)], none, []⟩,
    ⟨2, some 23, .un .not (.t 22), none, []⟩,
    ⟨3, some 24, .mv (.t 23), none, []⟩,
    ⟨4, some 25, .mv (.t 3), (some (24, false)), []⟩,
    ⟨5, some 26, .bin .gtr (.t 25) (.c (.int .i64 0)), (some (24, false)), []⟩,
    ⟨6, some 27, .mv (.t 26), (some (24, false)), []⟩,
    ⟨7, some 28, .fieldA 1 (.t 1), (some (27, true)), []⟩,
    ⟨8, some 29, .loadB 0 none (.t 28), (some (27, true)), []⟩,
    ⟨9, some 30, .mv (.t 3), (some (27, true)), []⟩,
    ⟨10, some 31, .bin .sub (.t 30) (.c (.int .i64 1)), (some (27, true)), []⟩,
    ⟨11, some 32, .indexA 1 (.t 29) (.t 31), (some (27, true)), []⟩,
    ⟨12, some 33, .loadH none (.t 32), (some (27, true)), []⟩,
    ⟨13, some 34, .mv (.t 4), (some (27, true)), []⟩,
    ⟨14, some 35, .bin .geq (.t 33) (.t 34), (some (27, true)), []⟩,
    ⟨15, some 36, .pick (.t 27) (.t 35) (.c (.bool false)), (some (24, false)), []⟩,
    ⟨16, some 37, .pick (.t 24) (.c (.bool true)) (.t 36), none, []⟩])
  (.cond (.t 37) (.seq (.region [⟨0, some 2, .mv (.c (.bool false)), none, []⟩])
  .ret) .skip))))
  (.region [⟨0, some 38, .bin .add (.t 16) (.c (.int .i64 1)), none, []⟩,
    ⟨1, some 16, .mv (.t 38), none, []⟩])))))))
  (.seq (.region [⟨0, some 2, .mv (.c (.bool true)), none, []⟩])
  .ret))))
def f_impl_IsReport : AFun := ⟨1, 39, 1, true, [.tmp 2], c_impl_IsReport⟩
@[irreducible] def s_impl_IsReport : CallSem := funSem f_impl_IsReport

def c_laws_eqIntS : ACode :=
  (.seq (.region [⟨0, some 4, .mv (.c (.bool false)), none, []⟩])
  (.seq (.seq (.region [⟨0, some 6, .mv (.t 0), none, []⟩,
    ⟨1, some 7, .len (.t 6), none, []⟩,
    ⟨2, some 8, .mv (.t 1), none, []⟩,
    ⟨3, some 9, .len (.t 8), none, []⟩,
    ⟨4, some 10, .bin .neq (.t 7) (.t 9), none, []⟩])
  (.cond (.t 10) (.seq (.region [⟨0, some 4, .mv (.c (.bool false)), none, []⟩])
  .ret) .skip))
  (.seq (.seq (.region [⟨0, some 5, .mv (.c (.int .i64 0)), none, []⟩])
  (.block 0 (.loop [0, 1, 5] (.seq (.seq (.region [⟨0, some 11, .mv (.t 5), none, []⟩,
    ⟨1, some 12, .mv (.t 0), none, []⟩,
    ⟨2, some 13, .len (.t 12), none, []⟩,
    ⟨3, some 14, .bin .lss (.t 11) (.t 13), none, []⟩])
  (.cond (.t 14) .skip (.exit 0)))
  (.seq (.block 1 (.seq (.region [⟨0, some 17, .mv (.t 0), none, []⟩,
    ⟨1, some 18, .mv (.t 5), none, []⟩,
    ⟨2, some 19, .indexA 1 (.t 17) (.t 18), none, [0, 1]⟩,
    ⟨3, some 20, .loadH none (.t 19), none, [0, 1, 2]⟩,
    ⟨4, some 21, .mv (.t 1), none, []⟩,
    ⟨5, some 22, .mv (.t 5), none, []⟩,
    ⟨6, some 23, .indexA 1 (.t 21) (.t 22), none, [4, 5]⟩,
    ⟨7, some 24, .loadH none (.t 23), none, [4, 5, 6]⟩,
    ⟨8, some 25, .bin .neq (.t 20) (.t 24), none, [0, 1, 2, 3, 4, 5, 6, 7]⟩])
  (.cond (.t 25) (.seq (.region [⟨0, some 4, .mv (.c (.bool false)), none, []⟩])
  .ret) .skip)))
  (.region [⟨0, some 15, .mv (.t 5), none, []⟩,
    ⟨1, some 16, .bin .add (.t 15) (.c (.int .i64 1)), none, []⟩,
    ⟨2, some 5, .mv (.t 16), none, []⟩]))))))
  (.seq (.region [⟨0, some 4, .mv (.c (.bool true)), none, []⟩])
  .ret))))
def f_laws_eqIntS : AFun := ⟨2, 26, 0, true, [.tmp 4], c_laws_eqIntS⟩
@[irreducible] def s_laws_eqIntS : CallSem := funSem f_laws_eqIntS

def c_laws_eqReport : ACode :=
  (.seq (.region [⟨0, some 2, .boxB 0 2 (.t 0), none, []⟩,
    ⟨1, some 3, .boxB 1 2 (.t 1), none, []⟩,
    ⟨2, some 4, .mv (.c (.bool false)), none, []⟩])
  (.seq (.seq (.region [⟨0, some 5, .fieldA 0 (.t 2), none, []⟩,
    ⟨1, some 6, .loadB 0 none (.t 5), none, []⟩,
    ⟨2, some 7, .fieldA 0 (.t 3), none, []⟩,
    ⟨3, some 8, .loadB 1 none (.t 7), none, []⟩,
    ⟨4, some 9, .bin .neq (.t 6) (.t 8), none, []⟩])
  (.cond (.t 9) (.seq (.region [⟨0, some 4, .mv (.c (.bool false)), none, []⟩])
  .ret) .skip))
  (.seq (.seq (.region [⟨0, some 10, .fieldA 1 (.t 2), none, []⟩,
    ⟨1, some 11, .loadB 0 none (.t 10), none, []⟩,
    ⟨2, some 12, .fieldA 1 (.t 3), none, []⟩,
    ⟨3, some 13, .loadB 1 none (.t 12), none, []⟩,
    ⟨4, some 14, .call s_laws_eqIntS [(.t 11), (.t 13)], none, []⟩,
    ⟨5, some 15, .un .not (.t 14), none, []⟩])
  (.cond (.t 15) (.seq (.region [⟨0, some 4, .mv (.c (.bool false)), none, []⟩])
  .ret) .skip))
  (.seq (.region [⟨0, some 4, .mv (.c (.bool true)), none, []⟩])
  .ret))))
def f_laws_eqReport : AFun := ⟨2, 16, 2, true, [.tmp 4], c_laws_eqReport⟩
@[irreducible] def s_laws_eqReport : CallSem := funSem f_laws_eqReport

def c_laws_FnExactIsReport : ACode :=
  (.seq (.region [⟨0, some 1, .boxB 0 2 (.t 0), none, []⟩,
    ⟨1, some 2, .mv (.c (.bool false)), none, []⟩])
  (.seq (.region [⟨0, some 3, .mv (.c (.int .i64 1048576)), none, []⟩])
  (.seq (.region [⟨0, some 7, .loadB 0 (some 2) (.t 1), none, []⟩,
    ⟨1, some 8, .mv (.t 3), none, []⟩,
    ⟨2, some 9, .call s_laws_szReport [(.t 7), (.t 8)], none, []⟩,
    ⟨3, some 3, .mv (.t 9), none, []⟩])
  (.seq (.seq (.region [⟨0, some 10, .mv (.t 3), none, []⟩,
    ⟨1, some 11, .bin .lss (.t 10) (.c (.int .i64 0)), none, []⟩])
  (.cond (.t 11) (.seq (.region [⟨0, some 2, .mv (.c (.bool true)), none, []⟩])
  .ret) .skip))
  (.seq (.region [⟨0, some 12, .loadB 0 (some 2) (.t 1), none, []⟩,
    ⟨1, some 13, .call s_laws_toReport [(.t 12)], none, []⟩,
    ⟨2, some 14, .call s_spec_IsReport [(.t 13)], none, []⟩,
    ⟨3, some 4, .mv (.t 14), none, []⟩])
  (.seq (.region [⟨0, some 15, .loadB 0 (some 2) (.t 1), none, []⟩,
    ⟨1, some 16, .call s_laws_toReport [(.t 15)], none, []⟩,
    ⟨2, some 5, .allocB 1 [(.int .i64 0), .nils], none, []⟩,
    ⟨3, none, .storeB 1 2 (.t 5) (.t 16), none, []⟩])
  (.seq (.region [⟨0, some 17, .loadB 1 (some 2) (.t 5), none, []⟩,
    ⟨1, some 18, .call s_impl_IsReport [(.t 17)], none, []⟩,
    ⟨2, some 6, .mv (.t 18), none, []⟩])
  (.seq (.seq (.region [⟨0, some 19, .mv (.t 6), none, []⟩,
    ⟨1, some 20, .mv (.t 4), none, []⟩,
    ⟨2, some 21, .eqB true (.t 19) (.t 20), none, []⟩])
  (.cond (.t 21) (.seq (.region [⟨0, some 2, .mv (.c (.bool false)), none, []⟩])
  .ret) .skip))
  (.seq (.seq (.region [⟨0, some 22, .loadB 1 (some 2) (.t 5), none, []⟩,
    ⟨1, some 23, .loadB 0 (some 2) (.t 1), none, []⟩,
    ⟨2, some 24, .call s_laws_toReport [(.t 23)], none, [1]⟩,
    ⟨3, some 25, .call s_laws_eqReport [(.t 22), (.t 24)], none, [0, 1, 2]⟩,
    ⟨4, some 26, .un .not (.t 25), none, [0, 1, 2, 3]⟩])
  (.cond (.t 26) (.seq (.region [⟨0, some 2, .mv (.c (.bool false)), none, []⟩])
  .ret) .skip))
  (.seq (.region [⟨0, some 2, .mv (.c (.bool true)), none, []⟩])
  .ret))))))))))
def f_laws_FnExactIsReport : AFun := ⟨1, 27, 2, true, [.tmp 2], c_laws_FnExactIsReport⟩
@[irreducible] def s_laws_FnExactIsReport : CallSem := funSem f_laws_FnExactIsReport

def c_spec_SameReport : ACode :=
  (.seq (.region [⟨0, some 2, .boxB 0 2 (.t 0), none, []⟩,
    ⟨1, some 3, .boxB 1 2 (.t 1), none, []⟩,
    ⟨2, some 4, .mv (.c (.bool false)), none, []⟩])
  (.seq (.seq (.region [⟨0, some 6, .fieldA 0 (.t 2), none, []⟩,
    ⟨1, some 7, .loadB 0 none (.t 6), none, []⟩,
    ⟨2, some 8, .fieldA 0 (.t 3), none, []⟩,
    ⟨3, some 9, .loadB 1 none (.t 8), none, []⟩,
    ⟨4, some 10, .bin .neq (.t 7) (.t 9), none, []⟩,
    ⟨5, some 11, .mv (.t 10), none, []⟩,
    ⟨6, some 12, .fieldA 1 (.t 2), (some (11, false)), []⟩,
    ⟨7, some 13, .loadB 0 none (.t 12), (some (11, false)), []⟩,
    ⟨8, some 14, .len (.t 13), (some (11, false)), []⟩,
    ⟨9, some 15, .fieldA 1 (.t 3), (some (11, false)), []⟩,
    ⟨10, some 16, .loadB 1 none (.t 15), (some (11, false)), []⟩,
    ⟨11, some 17, .len (.t 16), (some (11, false)), []⟩,
    ⟨12, some 18, .bin .neq (.t 14) (.t 17), (some (11, false)), []⟩,
    ⟨13, some 19, .pick (.t 11) (.c (.bool true)) (.t 18), none, []⟩])
  (.cond (.t 19) (.seq (.region [⟨0, some 4, .mv (.c (.bool false)), none, []⟩])
  .ret) .skip))
  (.seq (.seq (.region [⟨0, some 5, .mv (.c (.int .i64 0)), none, []⟩])
  (.block 0 (.loop [2, 3, 5] (.seq (.seq (.region [⟨0, some 20, .mv (.t 5), none, []⟩,
    ⟨1, some 21, .fieldA 1 (.t 2), none, []⟩,
    ⟨2, some 22, .loadB 0 none (.t 21), none, []⟩,
    ⟨3, some 23, .len (.t 22), none, []⟩,
    ⟨4, some 24, .bin .lss (.t 20) (.t 23), none, []⟩])
  (.cond (.t 24) .skip (.exit 0)))
  (.seq (.block 1 (.seq (.region [⟨0, some 27, .fieldA 1 (.t 2), none, []⟩,
    ⟨1, some 28, .loadB 0 none (.t 27), none, [0]⟩,
    ⟨2, some 29, .mv (.t 5), none, []⟩,
    ⟨3, some 30, .indexA 1 (.t 28) (.t 29), none, [0, 1, 2]⟩,
    ⟨4, some 31, .loadH none (.t 30), none, [0, 1, 2, 3]⟩,
    ⟨5, some 32, .fieldA 1 (.t 3), none, []⟩,
    ⟨6, some 33, .loadB 1 none (.t 32), none, [5]⟩,
    ⟨7, some 34, .mv (.t 5), none, []⟩,
    ⟨8, some 35, .indexA 1 (.t 33) (.t 34), none, [5, 6, 7]⟩,
    ⟨9, some 36, .loadH none (.t 35), none, [5, 6, 7, 8]⟩,
    ⟨10, some 37, .bin .neq (.t 31) (.t 36), none, [0, 1, 2, 3, 4, 5, 6, 7, 8, 9]⟩])
  (.cond (.t 37) (.seq (.region [⟨0, some 4, .mv (.c (.bool false)), none, []⟩])
  .ret) .skip)))
  (.region [⟨0, some 25, .mv (.t 5), none, []⟩,
    ⟨1, some 26, .bin .add (.t 25) (.c (.int .i64 1)), none, []⟩,
    ⟨2, some 5, .mv (.t 26), none, []⟩]))))))
  (.seq (.region [⟨0, some 4, .mv (.c (.bool true)), none, []⟩])
  .ret))))
def f_spec_SameReport : AFun := ⟨2, 38, 2, true, [.tmp 4], c_spec_SameReport⟩
@[irreducible] def s_spec_SameReport : CallSem := funSem f_spec_SameReport

def c_impl_sameInts : ACode :=
  (.seq (.region [⟨0, some 4, .mv (.c (.bool false)), none, []⟩])
  (.seq (.seq (.region [⟨0, some 6, .mv (.t 0), none, []⟩,
    ⟨1, some 7, .len (.t 6), none, []⟩,
    ⟨2, some 8, .mv (.t 1), none, []⟩,
    ⟨3, some 9, .len (.t 8), none, []⟩,
    ⟨4, some 10, .bin .neq (.t 7) (.t 9), none, []⟩])
  (.cond (.t 10) (.seq (.region [⟨0, some 4, .mv (.c (.bool false)), none, []⟩])
  .ret) .skip))
  (.seq (.seq (.region [⟨0, some 11, .mv (.t 0), none, []⟩,
    ⟨1, some 12, .len (.t 11), none, []⟩,
    ⟨2, some 13, .mv (.c (.int .i64 0)), none, []⟩])
  (.block 0 (.loop [0, 1, 12, 13] (.seq (.region [⟨0, some 14, .bin .lss (.t 13) (.t 12), none, []⟩])
  (.seq (.cond (.t 14) .skip (.exit 0))
  (.seq (.block 1 (.seq (.region [⟨0, some 15, .mv (.t 13), none, []⟩,
    ⟨1, some 5, .mv (.t 15), none, []⟩])
  (.seq (.region [⟨0, some 16, .mv (.t 0), none, []⟩,
    ⟨1, some 17, .mv (.t 5), none, []⟩,
    ⟨2, some 18, .indexA 1 (.t 16) (.t 17), none, [0, 1]⟩,
    ⟨3, some 19, .loadH none (.t 18), none, [0, 1, 2]⟩,
    ⟨4, some 20, .mv (.t 1), none, []⟩,
    ⟨5, some 21, .mv (.t 5), none, []⟩,
    ⟨6, some 22, .indexA 1 (.t 20) (.t 21), none, [4, 5]⟩,
    ⟨7, some 23, .loadH none (.t 22), none, [4, 5, 6]⟩,
    ⟨8, some 24, .bin .neq (.t 19) (.t 23), none, [0, 1, 2, 3, 4, 5, 6, 7]⟩])
  (.cond (.t 24) (.seq (.region [⟨0, some 4, .mv (.c (.bool false)), none, []⟩])
  .ret) .skip))))
  (.region [⟨0, some 25, .bin .add (.t 13) (.c (.int .i64 1)), none, []⟩,
    ⟨1, some 13, .mv (.t 25), none, []⟩])))))))
  (.seq (.region [⟨0, some 4, .mv (.c (.bool true)), none, []⟩])
  .ret))))
def f_impl_sameInts : AFun := ⟨2, 26, 0, true, [.tmp 4], c_impl_sameInts⟩
@[irreducible] def s_impl_sameInts : CallSem := funSem f_impl_sameInts

def c_impl_SameReport : ACode :=
  (.seq (.region [⟨0, some 2, .boxB 0 2 (.t 0), none, []⟩,
    ⟨1, some 3, .boxB 1 2 (.t 1), none, []⟩,
    ⟨2, some 4, .mv (.c (.bool false)), none, []⟩])
  (.seq (.region [⟨0, some 5, .fieldA 0 (.t 2), none, []⟩,
    ⟨1, some 6, .loadB 0 none (.t 5), none, []⟩,
    ⟨2, some 7, .fieldA 0 (.t 3), none, []⟩,
    ⟨3, some 8, .loadB 1 none (.t 7), none, []⟩,
    ⟨4, some 9, .bin .eql (.t 6) (.t 8), none, []⟩,
    ⟨5, some 10, .mv (.t 9), none, []⟩,
    ⟨6, some 11, .fieldA 1 (.t 2), (some (10, true)), []⟩,
    ⟨7, some 12, .loadB 0 none (.t 11), (some (10, true)), []⟩,
    ⟨8, some 13, .fieldA 1 (.t 3), (some (10, true)), []⟩,
    ⟨9, some 14, .loadB 1 none (.t 13), (some (10, true)), []⟩,
    ⟨10, some 15, .call s_impl_sameInts [(.t 12), (.t 14)], (some (10, true)), []⟩,
    ⟨11, some 16, .pick (.t 10) (.t 15) (.c (.bool false)), none, []⟩,
    ⟨12, some 4, .mv (.t 16), none, []⟩])
  .ret))
def f_impl_SameReport : AFun := ⟨2, 17, 2, true, [.tmp 4], c_impl_SameReport⟩
@[irreducible] def s_impl_SameReport : CallSem := funSem f_impl_SameReport

def c_laws_FnExactSameReport : ACode :=
  (.seq (.region [⟨0, some 2, .boxB 0 2 (.t 0), none, []⟩,
    ⟨1, some 3, .boxB 1 2 (.t 1), none, []⟩,
    ⟨2, some 4, .mv (.c (.bool false)), none, []⟩])
  (.seq (.region [⟨0, some 5, .mv (.c (.int .i64 1048576)), none, []⟩])
  (.seq (.region [⟨0, some 10, .loadB 0 (some 2) (.t 2), none, []⟩,
    ⟨1, some 11, .mv (.t 5), none, []⟩,
    ⟨2, some 12, .call s_laws_szReport [(.t 10), (.t 11)], none, []⟩,
    ⟨3, some 5, .mv (.t 12), none, []⟩])
  (.seq (.seq (.region [⟨0, some 13, .mv (.t 5), none, []⟩,
    ⟨1, some 14, .bin .lss (.t 13) (.c (.int .i64 0)), none, []⟩])
  (.cond (.t 14) (.seq (.region [⟨0, some 4, .mv (.c (.bool true)), none, []⟩])
  .ret) .skip))
  (.seq (.region [⟨0, some 15, .loadB 1 (some 2) (.t 3), none, []⟩,
    ⟨1, some 16, .mv (.t 5), none, []⟩,
    ⟨2, some 17, .call s_laws_szReport [(.t 15), (.t 16)], none, []⟩,
    ⟨3, some 5, .mv (.t 17), none, []⟩])
  (.seq (.seq (.region [⟨0, some 18, .mv (.t 5), none, []⟩,
    ⟨1, some 19, .bin .lss (.t 18) (.c (.int .i64 0)), none, []⟩])
  (.cond (.t 19) (.seq (.region [⟨0, some 4, .mv (.c (.bool true)), none, []⟩])
  .ret) .skip))
  (.seq (.region [⟨0, some 20, .loadB 0 (some 2) (.t 2), none, []⟩,
    ⟨2, some 22, .loadB 1 (some 2) (.t 3), none, []⟩,
    ⟨1, some 21, .call s_laws_toReport [(.t 20)], none, [0]⟩,
    ⟨3, some 23, .call s_laws_toReport [(.t 22)], none, [0, 1, 2]⟩,
    ⟨4, some 24, .call s_spec_SameReport [(.t 21), (.t 23)], none, [0, 1, 2, 3]⟩,
    ⟨5, some 6, .mv (.t 24), none, [0, 1, 2, 3, 4]⟩])
  (.seq (.region [⟨0, some 25, .loadB 0 (some 2) (.t 2), none, []⟩,
    ⟨1, some 26, .call s_laws_toReport [(.t 25)], none, []⟩,
    ⟨2, some 7, .allocB 2 [(.int .i64 0), .nils], none, []⟩,
    ⟨3, none, .storeB 2 2 (.t 7) (.t 26), none, []⟩])
  (.seq (.region [⟨0, some 27, .loadB 1 (some 2) (.t 3), none, []⟩,
    ⟨1, some 28, .call s_laws_toReport [(.t 27)], none, []⟩,
    ⟨2, some 8, .allocB 3 [(.int .i64 0), .nils], none, []⟩,
    ⟨3, none, .storeB 3 2 (.t 8) (.t 28), none, []⟩])
  (.seq (.region [⟨0, some 29, .loadB 2 (some 2) (.t 7), none, []⟩,
    ⟨1, some 30, .loadB 3 (some 2) (.t 8), none, []⟩,
    ⟨2, some 31, .call s_impl_SameReport [(.t 29), (.t 30)], none, []⟩,
    ⟨3, some 9, .mv (.t 31), none, []⟩])
  (.seq (.seq (.region [⟨0, some 32, .mv (.t 9), none, []⟩,
    ⟨1, some 33, .mv (.t 6), none, []⟩,
    ⟨2, some 34, .eqB true (.t 32) (.t 33), none, []⟩])
  (.cond (.t 34) (.seq (.region [⟨0, some 4, .mv (.c (.bool false)), none, []⟩])
  .ret) .skip))
  (.seq (.seq (.region [⟨0, some 35, .loadB 2 (some 2) (.t 7), none, []⟩,
    ⟨1, some 36, .loadB 0 (some 2) (.t 2), none, []⟩,
    ⟨2, some 37, .call s_laws_toReport [(.t 36)], none, [1]⟩,
    ⟨3, some 38, .call s_laws_eqReport [(.t 35), (.t 37)], none, [0, 1, 2]⟩,
    ⟨4, some 39, .un .not (.t 38), none, [0, 1, 2, 3]⟩])
  (.cond (.t 39) (.seq (.region [⟨0, some 4, .mv (.c (.bool false)), none, []⟩])
  .ret) .skip))
  (.seq (.seq (.region [⟨0, some 40, .loadB 3 (some 2) (.t 8), none, []⟩,
    ⟨1, some 41, .loadB 1 (some 2) (.t 3), none, []⟩,
    ⟨2, some 42, .call s_laws_toReport [(.t 41)], none, [1]⟩,
    ⟨3, some 43, .call s_laws_eqReport [(.t 40), (.t 42)], none, [0, 1, 2]⟩,
    ⟨4, some 44, .un .not (.t 43), none, [0, 1, 2, 3]⟩])
  (.cond (.t 44) (.seq (.region [⟨0, some 4, .mv (.c (.bool false)), none, []⟩])
  .ret) .skip))
  (.seq (.region [⟨0, some 4, .mv (.c (.bool true)), none, []⟩])
  .ret))))))))))))))
def f_laws_FnExactSameReport : AFun := ⟨2, 45, 4, true, [.tmp 4], c_laws_FnExactSameReport⟩
@[irreducible] def s_laws_FnExactSameReport : CallSem := funSem f_laws_FnExactSameReport

def c_laws_toByteS : ACode :=
  (.seq (.region [⟨0, some 2, .mv (.c .nils), none, []⟩])
  (.seq (.region [⟨0, some 5, .mv (.t 0), none, []⟩,
    ⟨1, some 6, .len (.t 5), none, []⟩,
    ⟨2, some 7, .mkSlice 1 [(.int .u8 0)] (.t 6), none, []⟩,
    ⟨3, some 3, .mv (.t 7), none, []⟩])
  (.seq (.seq (.region [⟨0, some 4, .mv (.c (.int .i64 0)), none, []⟩])
  (.block 0 (.loop [0, 3, 4] (.seq (.seq (.region [⟨0, some 8, .mv (.t 4), none, []⟩,
    ⟨1, some 9, .mv (.t 0), none, []⟩,
    ⟨2, some 10, .len (.t 9), none, []⟩,
    ⟨3, some 11, .bin .lss (.t 8) (.t 10), none, []⟩])
  (.cond (.t 11) .skip (.exit 0)))
  (.seq (.block 1 (.region [⟨0, some 14, .mv (.t 3), none, []⟩,
    ⟨1, some 15, .mv (.t 4), none, []⟩,
    ⟨2, some 16, .mv (.t 0), none, []⟩,
    ⟨3, some 17, .mv (.t 4), none, []⟩,
    ⟨4, some 18, .indexA 1 (.t 16) (.t 17), none, []⟩,
    ⟨5, some 19, .loadH none (.t 18), none, []⟩,
    ⟨6, some 20, .indexA 1 (.t 14) (.t 15), none, []⟩,
    ⟨7, none, .storeH 1 (.t 20) (.t 19), none, []⟩]))
  (.region [⟨0, some 12, .mv (.t 4), none, []⟩,
    ⟨1, some 13, .bin .add (.t 12) (.c (.int .i64 1)), none, []⟩,
    ⟨2, some 4, .mv (.t 13), none, []⟩]))))))
  (.seq (.region [⟨0, some 21, .mv (.t 3), none, []⟩,
    ⟨1, some 2, .mv (.t 21), none, []⟩])
  .ret))))
def f_laws_toByteS : AFun := ⟨1, 22, 0, false, [.tmp 2], c_laws_toByteS⟩
@[irreducible] def s_laws_toByteS : CallSem := funSem f_laws_toByteS

def c_spec_ReadBits : ACode :=
  (.seq (.region [⟨0, some 2, .allocB 0 [(.int .i64 0), .nils], none, []⟩,
    ⟨1, some 3, .mv (.c (.bool false)), none, []⟩])
  (.seq (.seq (.region [⟨0, some 6, .mv (.t 0), none, []⟩,
    ⟨1, some 7, .len (.t 6), none, []⟩,
    ⟨2, some 8, .bin .neq (.t 7) (.c (.int .i64 8)), none, []⟩,
    ⟨3, some 9, .mv (.t 8), none, []⟩,
    ⟨4, some 10, .mv (.t 0), (some (9, false)), []⟩,
    ⟨5, some 11, .indexA 1 (.t 10) (.c (.int .i64 0)), (some (9, false)), []⟩,
    ⟨6, some 12, .loadH none (.t 11), (some (9, false)), []⟩,
    ⟨7, some 13, .conv .i64 (.t 12), (some (9, false)), []⟩,
    ⟨8, some 14, .bin .gtr (.t 13) (.c (.int .i64 15)), (some (9, false)), []⟩,
    ⟨9, some 15, .pick (.t 9) (.c (.bool true)) (.t 14), none, []⟩])
  (.cond (.t 15) (.seq (.region [⟨0, some 16, .build [(.int .i64 0), .nils] [], none, []⟩,
    ⟨1, none, .storeB 0 2 (.t 2) (.t 16), none, []⟩,
    ⟨2, some 3, .mv (.c (.bool false)), none, []⟩])
  .ret) .skip))
  (.seq (.region [⟨0, some 17, .mv (.t 0), none, []⟩,
    ⟨1, some 18, .indexA 1 (.t 17) (.c (.int .i64 0)), none, []⟩,
    ⟨2, some 19, .loadH none (.t 18), none, []⟩,
    ⟨3, some 20, .conv .i64 (.t 19), none, []⟩,
    ⟨4, some 21, .litSlice 1 0 [] [], none, []⟩,
    ⟨5, some 22, .build [(.int .i64 0), .nils] [(0, 1, (.t 20)), (1, 1, (.t 21))], none, []⟩,
    ⟨6, some 4, .allocB 1 [(.int .i64 0), .nils], none, []⟩,
    ⟨7, none, .storeB 1 2 (.t 4) (.t 22), none, []⟩])
  (.seq (.seq (.region [⟨0, some 5, .mv (.c (.int .i64 0)), none, []⟩])
  (.block 0 (.loop [0, 2, 4, 5] (.seq (.seq (.region [⟨0, some 23, .mv (.t 5), none, []⟩,
    ⟨1, some 24, .bin .lss (.t 23) (.c (.int .i64 56)), none, []⟩])
  (.cond (.t 24) .skip (.exit 0)))
  (.seq (.block 1 (.seq (.region [⟨0, some 27, .mv (.t 0), none, []⟩,
    ⟨1, some 28, .mv (.t 5), none, []⟩,
    ⟨2, some 29, .bin .quo (.t 28) (.c (.int .i64 8)), none, []⟩,
    ⟨3, some 30, .bin .add (.c (.int .i64 1)) (.t 29), none, []⟩,
    ⟨4, some 31, .indexA 1 (.t 27) (.t 30), none, []⟩,
    ⟨5, some 32, .loadH none (.t 31), none, []⟩,
    ⟨6, some 33, .conv .i64 (.t 32), none, []⟩,
    ⟨7, some 34, .mv (.t 5), none, []⟩,
    ⟨8, some 35, .bin .rem (.t 34) (.c (.int .i64 8)), none, []⟩,
    ⟨9, some 36, .bin .shr (.t 33) (.t 35), none, []⟩,
    ⟨10, some 37, .bin .and (.t 36) (.c (.int .i64 1)), none, []⟩,
    ⟨11, some 38, .bin .eql (.t 37) (.c (.int .i64 1)), none, []⟩])
  (.cond (.t 38) (.region [⟨0, some 39, .fieldA 1 (.t 4), none, []⟩,
    ⟨1, some 40, .loadB 1 none (.t 39), none, []⟩,
    ⟨2, some 41, .mv (.t 5), none, []⟩,
    ⟨3, some 42, .bin .add (.t 41) (.c (.int .i64 1)), none, []⟩,
    ⟨4, some 43, .litSlice 1 1 [(.int .i64 0)] [(0, 1, (.t 42))], none, []⟩,
    ⟨5, some 44, .app 1 (.t 40) (.t 43), none, []⟩,
    ⟨6, some 45, .fieldA 1 (.t 4), none, []⟩,
    ⟨7, none, .storeB 1 1 (.t 45) (.t 44), none, []⟩]) .skip)))
  (.region [⟨0, some 25, .mv (.t 5), none, []⟩,
    ⟨1, some 26, .bin .add (.t 25) (.c (.int .i64 1)), none, []⟩,
    ⟨2, some 5, .mv (.t 26), none, []⟩]))))))
  (.seq (.region [⟨0, some 46, .loadB 1 (some 2) (.t 4), none, []⟩,
    ⟨1, none, .storeB 0 2 (.t 2) (.t 46), none, []⟩,
    ⟨2, some 3, .mv (.c (.bool true)), none, []⟩])
  .ret)))))
def f_spec_ReadBits : AFun := ⟨1, 47, 2, false, [.cell 2 (some 2), .tmp 3], c_spec_ReadBits⟩
@[irreducible] def s_spec_ReadBits : CallSem := funSem f_spec_ReadBits

def c_impl_ReadBits : ACode :=
  (.seq (.region [⟨0, some 2, .allocB 0 [(.int .i64 0), .nils], none, []⟩,
    ⟨1, some 3, .mv (.c (.bool false)), none, []⟩])
  (.seq (.seq (.region [⟨0, some 6, .mv (.t 0), none, []⟩,
    ⟨1, some 7, .len (.t 6), none, []⟩,
    ⟨2, some 8, .bin .neq (.t 7) (.c (.int .i64 8)), none, []⟩,
    ⟨3, some 9, .mv (.t 8), none, []⟩,
    ⟨4, some 10, .mv (.t 0), (some (9, false)), []⟩,
    ⟨5, some 11, .indexA 1 (.t 10) (.c (.int .i64 0)), (some (9, false)), []⟩,
    ⟨6, some 12, .loadH none (.t 11), (some (9, false)), []⟩,
    ⟨7, some 13, .bin .gtr (.t 12) (.c (.int .u8 15)), (some (9, false)), []⟩,
    ⟨8, some 14, .pick (.t 9) (.c (.bool true)) (.t 13), none, []⟩])
  (.cond (.t 14) (.seq (.region [⟨0, some 15, .build [(.int .i64 0), .nils] [], none, []⟩,
    ⟨1, none, .storeB 0 2 (.t 2) (.t 15), none, []⟩,
    ⟨2, some 3, .mv (.c (.bool false)), none, []⟩])
  .ret) .skip))
  (.seq (.region [⟨0, some 16, .mv (.t 0), none, []⟩,
    ⟨1, some 17, .indexA 1 (.t 16) (.c (.int .i64 0)), none, []⟩,
    ⟨2, some 18, .loadH none (.t 17), none, []⟩,
    ⟨3, some 19, .conv .i64 (.t 18), none, []⟩,
    ⟨4, some 20, .build [(.int .i64 0), .nils] [(0, 1, (.t 19))], none, []⟩,
    ⟨5, some 4, .allocB 1 [(.int .i64 0), .nils], none, []⟩,
    ⟨6, none, .storeB 1 2 (.t 4) (.t 20), none, []⟩])
  (.seq (.seq (.region [⟨0, some 5, .mv (.c (.int .i64 1)), none, []⟩])
  (.block 0 (.loop [0, 2, 4, 5] (.seq (.seq (.region [⟨0, some 21, .mv (.t 5), none, []⟩,
    ⟨1, some 22, .bin .leq (.t 21) (.c (.int .i64 56)), none, []⟩])
  (.cond (.t 22) .skip (.exit 0)))
  (.seq (.block 1 (.seq (.region [⟨0, some 25, .mv (.t 0), none, []⟩,
    ⟨1, some 26, .mv (.t 5), none, []⟩,
    ⟨2, some 27, .bin .sub (.t 26) (.c (.int .i64 1)), none, []⟩,
    ⟨3, some 28, .bin .quo (.t 27) (.c (.int .i64 8)), none, []⟩,
    ⟨4, some 29, .bin .add (.c (.int .i64 1)) (.t 28), none, []⟩,
    ⟨5, some 30, .indexA 1 (.t 25) (.t 29), none, []⟩,
    ⟨6, some 31, .loadH none (.t 30), none, []⟩,
    ⟨7, some 32, .mv (.t 5), none, []⟩,
    ⟨8, some 33, .bin .sub (.t 32) (.c (.int .i64 1)), none, []⟩,
    ⟨9, some 34, .bin .rem (.t 33) (.c (.int .i64 8)), none, []⟩,
    ⟨10, some 35, .bin .shr (.t 31) (.t 34), none, []⟩,
    ⟨11, some 36, .bin .and (.t 35) (.c (.int .u8 1)), none, []⟩,
    ⟨12, some 37, .bin .eql (.t 36) (.c (.int .u8 1)), none, []⟩])
  (.cond (.t 37) (.region [⟨0, some 38, .fieldA 1 (.t 4), none, []⟩,
    ⟨1, some 39, .loadB 1 none (.t 38), none, []⟩,
    ⟨2, some 40, .mv (.t 5), none, []⟩,
    ⟨3, some 41, .litSlice 1 1 [(.int .i64 0)] [(0, 1, (.t 40))], none, []⟩,
    ⟨4, some 42, .app 1 (.t 39) (.t 41), none, []⟩,
    ⟨5, some 43, .fieldA 1 (.t 4), none, []⟩,
    ⟨6, none, .storeB 1 1 (.t 43) (.t 42), none, []⟩]) .skip)))
  (.region [⟨0, some 23, .mv (.t 5), none, []⟩,
    ⟨1, some 24, .bin .add (.t 23) (.c (.int .i64 1)), none, []⟩,
    ⟨2, some 5, .mv (.t 24), none, []⟩]))))))
  (.seq (.region [⟨0, some 44, .loadB 1 (some 2) (.t 4), none, []⟩,
    ⟨1, none, .storeB 0 2 (.t 2) (.t 44), none, []⟩,
    ⟨2, some 3, .mv (.c (.bool true)), none, []⟩])
  .ret)))))
def f_impl_ReadBits : AFun := ⟨1, 45, 2, false, [.cell 2 (some 2), .tmp 3], c_impl_ReadBits⟩
@[irreducible] def s_impl_ReadBits : CallSem := funSem f_impl_ReadBits

def c_laws_eqByteS : ACode :=
  (.seq (.region [⟨0, some 4, .mv (.c (.bool false)), none, []⟩])
  (.seq (.seq (.region [⟨0, some 6, .mv (.t 0), none, []⟩,
    ⟨1, some 7, .len (.t 6), none, []⟩,
    ⟨2, some 8, .mv (.t 1), none, []⟩,
    ⟨3, some 9, .len (.t 8), none, []⟩,
    ⟨4, some 10, .bin .neq (.t 7) (.t 9), none, []⟩])
  (.cond (.t 10) (.seq (.region [⟨0, some 4, .mv (.c (.bool false)), none, []⟩])
  .ret) .skip))
  (.seq (.seq (.region [⟨0, some 5, .mv (.c (.int .i64 0)), none, []⟩])
  (.block 0 (.loop [0, 1, 5] (.seq (.seq (.region [⟨0, some 11, .mv (.t 5), none, []⟩,
    ⟨1, some 12, .mv (.t 0), none, []⟩,
    ⟨2, some 13, .len (.t 12), none, []⟩,
    ⟨3, some 14, .bin .lss (.t 11) (.t 13), none, []⟩])
  (.cond (.t 14) .skip (.exit 0)))
  (.seq (.block 1 (.seq (.region [⟨0, some 17, .mv (.t 0), none, []⟩,
    ⟨1, some 18, .mv (.t 5), none, []⟩,
    ⟨2, some 19, .indexA 1 (.t 17) (.t 18), none, [0, 1]⟩,
    ⟨3, some 20, .loadH none (.t 19), none, [0, 1, 2]⟩,
    ⟨4, some 21, .mv (.t 1), none, []⟩,
    ⟨5, some 22, .mv (.t 5), none, []⟩,
    ⟨6, some 23, .indexA 1 (.t 21) (.t 22), none, [4, 5]⟩,
    ⟨7, some 24, .loadH none (.t 23), none, [4, 5, 6]⟩,
    ⟨8, some 25, .bin .neq (.t 20) (.t 24), none, [0, 1, 2, 3, 4, 5, 6, 7]⟩])
  (.cond (.t 25) (.seq (.region [⟨0, some 4, .mv (.c (.bool false)), none, []⟩])
  .ret) .skip)))
  (.region [⟨0, some 15, .mv (.t 5), none, []⟩,
    ⟨1, some 16, .bin .add (.t 15) (.c (.int .i64 1)), none, []⟩,
    ⟨2, some 5, .mv (.t 16), none, []⟩]))))))
  (.seq (.region [⟨0, some 4, .mv (.c (.bool true)), none, []⟩])
  .ret))))
def f_laws_eqByteS : AFun := ⟨2, 26, 0, true, [.tmp 4], c_laws_eqByteS⟩
@[irreducible] def s_laws_eqByteS : CallSem := funSem f_laws_eqByteS

def c_laws_markByteS : ACode :=
  (.seq (.region [⟨0, some 4, .mv (.c (.int .i64 0)), none, []⟩])
  (.seq (.seq (.region [⟨0, some 5, .mv (.c (.int .i64 0)), none, []⟩])
  (.block 0 (.loop [0, 1, 5] (.seq (.seq (.region [⟨0, some 6, .mv (.t 5), none, []⟩,
    ⟨1, some 7, .mv (.t 0), none, []⟩,
    ⟨2, some 8, .len (.t 7), none, []⟩,
    ⟨3, some 9, .bin .lss (.t 6) (.t 8), none, []⟩])
  (.cond (.t 9) .skip (.exit 0)))
  (.seq (.block 1 (.seq (.region [⟨0, some 12, .mv (.t 0), none, []⟩,
    ⟨1, some 13, .mv (.t 5), none, []⟩,
    ⟨2, some 14, .mv (.t 1), none, []⟩,
    ⟨3, some 15, .conv .u8 (.t 14), none, []⟩,
    ⟨4, some 16, .indexA 1 (.t 12) (.t 13), none, []⟩,
    ⟨5, none, .storeH 1 (.t 16) (.t 15), none, []⟩])
  (.region [⟨0, some 17, .mv (.t 1), none, []⟩,
    ⟨1, some 18, .bin .add (.t 17) (.c (.int .i64 1)), none, []⟩,
    ⟨2, some 1, .mv (.t 18), none, []⟩])))
  (.region [⟨0, some 10, .mv (.t 5), none, []⟩,
    ⟨1, some 11, .bin .add (.t 10) (.c (.int .i64 1)), none, []⟩,
    ⟨2, some 5, .mv (.t 11), none, []⟩]))))))
  (.seq (.region [⟨0, some 19, .mv (.t 1), none, []⟩,
    ⟨1, some 4, .mv (.t 19), none, []⟩])
  .ret)))
def f_laws_markByteS : AFun := ⟨2, 20, 0, false, [.tmp 4], c_laws_markByteS⟩
@[irreducible] def s_laws_markByteS : CallSem := funSem f_laws_markByteS

def c_laws_markIntS : ACode :=
  (.seq (.region [⟨0, some 4, .mv (.c (.int .i64 0)), none, []⟩])
  (.seq (.seq (.region [⟨0, some 5, .mv (.c (.int .i64 0)), none, []⟩])
  (.block 0 (.loop [0, 1, 5] (.seq (.seq (.region [⟨0, some 6, .mv (.t 5), none, []⟩,
    ⟨1, some 7, .mv (.t 0), none, []⟩,
    ⟨2, some 8, .len (.t 7), none, []⟩,
    ⟨3, some 9, .bin .lss (.t 6) (.t 8), none, []⟩])
  (.cond (.t 9) .skip (.exit 0)))
  (.seq (.block 1 (.seq (.region [⟨0, some 12, .mv (.t 0), none, []⟩,
    ⟨1, some 13, .mv (.t 5), none, []⟩,
    ⟨2, some 14, .mv (.t 1), none, []⟩,
    ⟨3, some 15, .indexA 1 (.t 12) (.t 13), none, []⟩,
    ⟨4, none, .storeH 1 (.t 15) (.t 14), none, []⟩])
  (.region [⟨0, some 16, .mv (.t 1), none, []⟩,
    ⟨1, some 17, .bin .add (.t 16) (.c (.int .i64 1)), none, []⟩,
    ⟨2, some 1, .mv (.t 17), none, []⟩])))
  (.region [⟨0, some 10, .mv (.t 5), none, []⟩,
    ⟨1, some 11, .bin .add (.t 10) (.c (.int .i64 1)), none, []⟩,
    ⟨2, some 5, .mv (.t 11), none, []⟩]))))))
  (.seq (.region [⟨0, some 18, .mv (.t 1), none, []⟩,
    ⟨1, some 4, .mv (.t 18), none, []⟩])
  .ret)))
def f_laws_markIntS : AFun := ⟨2, 19, 0, false, [.tmp 4], c_laws_markIntS⟩
@[irreducible] def s_laws_markIntS : CallSem := funSem f_laws_markIntS

def c_laws_markReport : ACode :=
  (.seq (.region [⟨0, some 2, .boxB 0 2 (.t 0), none, []⟩,
    ⟨1, some 4, .mv (.c (.int .i64 0)), none, []⟩])
  (.seq (.region [⟨0, some 5, .fieldA 1 (.t 2), none, []⟩,
    ⟨1, some 6, .loadB 0 none (.t 5), none, []⟩,
    ⟨2, some 7, .mv (.t 1), none, []⟩,
    ⟨3, some 8, .call s_laws_markIntS [(.t 6), (.t 7)], none, []⟩,
    ⟨4, some 1, .mv (.t 8), none, []⟩])
  (.seq (.region [⟨0, some 9, .mv (.t 1), none, []⟩,
    ⟨1, some 4, .mv (.t 9), none, []⟩])
  .ret)))
def f_laws_markReport : AFun := ⟨2, 10, 1, false, [.tmp 4], c_laws_markReport⟩
@[irreducible] def s_laws_markReport : CallSem := funSem f_laws_markReport

def c_laws_heldIntS : ACode :=
  (.seq (.region [⟨0, some 4, .mv (.c (.int .i64 0)), none, []⟩])
  (.seq (.seq (.region [⟨0, some 5, .mv (.c (.int .i64 0)), none, []⟩])
  (.block 0 (.loop [0, 1, 5] (.seq (.seq (.region [⟨0, some 6, .mv (.t 5), none, []⟩,
    ⟨1, some 7, .mv (.t 0), none, []⟩,
    ⟨2, some 8, .len (.t 7), none, []⟩,
    ⟨3, some 9, .bin .lss (.t 6) (.t 8), none, []⟩])
  (.cond (.t 9) .skip (.exit 0)))
  (.seq (.block 1 (.seq (.seq (.region [⟨0, some 12, .mv (.t 0), none, []⟩,
    ⟨1, some 13, .mv (.t 5), none, []⟩,
    ⟨2, some 14, .indexA 1 (.t 12) (.t 13), none, []⟩,
    ⟨3, some 15, .loadH none (.t 14), none, []⟩,
    ⟨4, some 16, .mv (.t 1), none, []⟩,
    ⟨5, some 17, .bin .neq (.t 15) (.t 16), none, []⟩])
  (.cond (.t 17) (.seq (.region [⟨0, some 4, .mv (.c (.int .i64 (-1))), none, []⟩])
  .ret) .skip))
  (.region [⟨0, some 18, .mv (.t 1), none, []⟩,
    ⟨1, some 19, .bin .add (.t 18) (.c (.int .i64 1)), none, []⟩,
    ⟨2, some 1, .mv (.t 19), none, []⟩])))
  (.region [⟨0, some 10, .mv (.t 5), none, []⟩,
    ⟨1, some 11, .bin .add (.t 10) (.c (.int .i64 1)), none, []⟩,
    ⟨2, some 5, .mv (.t 11), none, []⟩]))))))
  (.seq (.region [⟨0, some 20, .mv (.t 1), none, []⟩,
    ⟨1, some 4, .mv (.t 20), none, []⟩])
  .ret)))
def f_laws_heldIntS : AFun := ⟨2, 21, 0, true, [.tmp 4], c_laws_heldIntS⟩
@[irreducible] def s_laws_heldIntS : CallSem := funSem f_laws_heldIntS

def c_laws_heldReport : ACode :=
  (.seq (.region [⟨0, some 2, .boxB 0 2 (.t 0), none, []⟩,
    ⟨1, some 4, .mv (.c (.int .i64 0)), none, []⟩])
  (.seq (.region [⟨0, some 5, .fieldA 1 (.t 2), none, []⟩,
    ⟨1, some 6, .loadB 0 none (.t 5), none, []⟩,
    ⟨2, some 7, .mv (.t 1), none, []⟩,
    ⟨3, some 8, .call s_laws_heldIntS [(.t 6), (.t 7)], none, []⟩,
    ⟨4, some 1, .mv (.t 8), none, []⟩])
  (.seq (.seq (.region [⟨0, some 9, .mv (.t 1), none, []⟩,
    ⟨1, some 10, .bin .lss (.t 9) (.c (.int .i64 0)), none, []⟩])
  (.cond (.t 10) (.seq (.region [⟨0, some 4, .mv (.c (.int .i64 (-1))), none, []⟩])
  .ret) .skip))
  (.seq (.region [⟨0, some 11, .mv (.t 1), none, []⟩,
    ⟨1, some 4, .mv (.t 11), none, []⟩])
  .ret))))
def f_laws_heldReport : AFun := ⟨2, 12, 1, true, [.tmp 4], c_laws_heldReport⟩
@[irreducible] def s_laws_heldReport : CallSem := funSem f_laws_heldReport

def c_laws_FnExactReadBits : ACode :=
  (.seq (.region [⟨0, some 2, .mv (.c (.bool false)), none, []⟩])
  (.seq (.seq (.region [⟨0, some 13, .mv (.t 0), none, []⟩,
    ⟨1, some 14, .len (.t 13), none, []⟩,
    ⟨2, some 15, .bin .gtr (.t 14) (.c (.int .i64 1048576)), none, []⟩])
  (.cond (.t 15) (.seq (.region [⟨0, some 2, .mv (.c (.bool true)), none, []⟩])
  .ret) .skip))
  (.seq (.region [⟨0, some 17, .mv (.t 0), none, []⟩,
    ⟨1, some 18, .call s_laws_toByteS [(.t 17)], none, []⟩,
    ⟨2, some 19, .call s_spec_ReadBits [(.t 18)], none, []⟩,
    ⟨3, some 16, .mv (.t 19), none, []⟩,
    ⟨4, some 20, .extract (.t 16) 0, none, []⟩,
    ⟨5, some 21, .extract (.t 16) 1, none, []⟩,
    ⟨6, some 3, .allocB 0 [(.int .i64 0), .nils], none, []⟩,
    ⟨7, none, .storeB 0 2 (.t 3) (.t 20), none, []⟩,
    ⟨8, some 4, .mv (.t 21), none, []⟩])
  (.seq (.region [⟨0, some 22, .mv (.t 0), none, []⟩,
    ⟨1, some 23, .call s_laws_toByteS [(.t 22)], none, []⟩,
    ⟨2, some 5, .mv (.t 23), none, []⟩])
  (.seq (.region [⟨0, some 25, .mv (.t 5), none, []⟩,
    ⟨1, some 26, .call s_impl_ReadBits [(.t 25)], none, []⟩,
    ⟨2, some 24, .mv (.t 26), none, []⟩,
    ⟨3, some 27, .extract (.t 24) 0, none, []⟩,
    ⟨4, some 28, .extract (.t 24) 1, none, []⟩,
    ⟨5, some 6, .allocB 1 [(.int .i64 0), .nils], none, []⟩,
    ⟨6, none, .storeB 1 2 (.t 6) (.t 27), none, []⟩,
    ⟨7, some 7, .mv (.t 28), none, []⟩])
  (.seq (.seq (.region [⟨0, some 29, .loadB 1 (some 2) (.t 6), none, []⟩,
    ⟨1, some 30, .loadB 0 (some 2) (.t 3), none, []⟩,
    ⟨2, some 31, .call s_laws_eqReport [(.t 29), (.t 30)], none, []⟩,
    ⟨3, some 32, .un .not (.t 31), none, []⟩,
    ⟨4, some 33, .mv (.t 32), none, []⟩,
    ⟨5, some 34, .mv (.t 7), (some (33, false)), []⟩,
    ⟨6, some 35, .mv (.t 4), (some (33, false)), []⟩,
    ⟨7, some 36, .eqB true (.t 34) (.t 35), (some (33, false)), []⟩,
    ⟨8, some 37, .pick (.t 33) (.c (.bool true)) (.t 36), none, []⟩])
  (.cond (.t 37) (.seq (.region [⟨0, some 2, .mv (.c (.bool false)), none, []⟩])
  .ret) .skip))
  (.seq (.seq (.region [⟨0, some 38, .mv (.t 5), none, []⟩,
    ⟨1, some 39, .mv (.t 0), none, []⟩,
    ⟨2, some 40, .call s_laws_toByteS [(.t 39)], none, []⟩,
    ⟨3, some 41, .call s_laws_eqByteS [(.t 38), (.t 40)], none, []⟩,
    ⟨4, some 42, .un .not (.t 41), none, []⟩])
  (.cond (.t 42) (.seq (.region [⟨0, some 2, .mv (.c (.bool false)), none, []⟩])
  .ret) .skip))
  (.seq (.region [⟨0, some 8, .mv (.c (.int .i64 1)), none, []⟩])
  (.seq (.region [⟨0, some 43, .mv (.t 5), none, []⟩,
    ⟨1, some 44, .mv (.t 8), none, []⟩,
    ⟨2, some 45, .call s_laws_markByteS [(.t 43), (.t 44)], none, []⟩,
    ⟨3, some 8, .mv (.t 45), none, []⟩])
  (.seq (.seq (.region [⟨0, some 46, .mv (.t 8), none, []⟩,
    ⟨1, some 47, .bin .lss (.t 46) (.c (.int .i64 0)), none, []⟩,
    ⟨2, some 48, .mv (.t 47), none, []⟩,
    ⟨3, some 49, .loadB 1 (some 2) (.t 6), (some (48, false)), []⟩,
    ⟨4, some 50, .loadB 0 (some 2) (.t 3), (some (48, false)), []⟩,
    ⟨5, some 51, .call s_laws_eqReport [(.t 49), (.t 50)], (some (48, false)), []⟩,
    ⟨6, some 52, .un .not (.t 51), (some (48, false)), []⟩,
    ⟨7, some 53, .pick (.t 48) (.c (.bool true)) (.t 52), none, []⟩,
    ⟨8, some 54, .mv (.t 53), none, []⟩,
    ⟨9, some 55, .mv (.t 7), (some (54, false)), []⟩,
    ⟨10, some 56, .mv (.t 4), (some (54, false)), []⟩,
    ⟨11, some 57, .eqB true (.t 55) (.t 56), (some (54, false)), []⟩,
    ⟨12, some 58, .pick (.t 54) (.c (.bool true)) (.t 57), none, []⟩])
  (.cond (.t 58) (.seq (.region [⟨0, some 2, .mv (.c (.bool false)), none, []⟩])
  .ret) .skip))
  (.seq (.region [⟨0, some 9, .mv (.c (.int .i64 1)), none, []⟩])
  (.seq (.region [⟨0, some 59, .loadB 1 (some 2) (.t 6), none, []⟩,
    ⟨1, some 60, .mv (.t 9), none, []⟩,
    ⟨2, some 61, .call s_laws_markReport [(.t 59), (.t 60)], none, []⟩,
    ⟨3, some 9, .mv (.t 61), none, []⟩])
  (.seq (.region [⟨0, some 10, .mv (.c (.int .i64 1)), none, []⟩])
  (.seq (.region [⟨0, some 62, .loadB 1 (some 2) (.t 6), none, []⟩,
    ⟨1, some 63, .mv (.t 10), none, []⟩,
    ⟨2, some 64, .call s_laws_heldReport [(.t 62), (.t 63)], none, []⟩,
    ⟨3, some 10, .mv (.t 64), none, []⟩])
  (.seq (.seq (.region [⟨0, some 65, .mv (.t 10), none, []⟩,
    ⟨1, some 66, .bin .lss (.t 65) (.c (.int .i64 0)), none, []⟩])
  (.cond (.t 66) (.seq (.region [⟨0, some 2, .mv (.c (.bool false)), none, []⟩])
  .ret) .skip))
  (.seq (.seq (.region [⟨0, some 67, .mv (.t 10), none, []⟩,
    ⟨1, some 68, .mv (.t 9), none, []⟩,
    ⟨2, some 69, .bin .neq (.t 67) (.t 68), none, []⟩])
  (.cond (.t 69) (.seq (.region [⟨0, some 2, .mv (.c (.bool false)), none, []⟩])
  .ret) .skip))
  (.seq (.region [⟨0, some 71, .mv (.t 0), none, []⟩,
    ⟨1, some 72, .call s_laws_toByteS [(.t 71)], none, []⟩,
    ⟨2, some 73, .call s_impl_ReadBits [(.t 72)], none, []⟩,
    ⟨3, some 70, .mv (.t 73), none, []⟩,
    ⟨4, some 74, .extract (.t 70) 0, none, []⟩,
    ⟨5, some 75, .extract (.t 70) 1, none, []⟩,
    ⟨6, some 11, .allocB 2 [(.int .i64 0), .nils], none, []⟩,
    ⟨7, none, .storeB 2 2 (.t 11) (.t 74), none, []⟩,
    ⟨8, some 12, .mv (.t 75), none, []⟩])
  (.seq (.seq (.region [⟨0, some 76, .loadB 2 (some 2) (.t 11), none, []⟩,
    ⟨1, some 77, .loadB 0 (some 2) (.t 3), none, []⟩,
    ⟨2, some 78, .call s_laws_eqReport [(.t 76), (.t 77)], none, []⟩,
    ⟨3, some 79, .un .not (.t 78), none, []⟩,
    ⟨4, some 80, .mv (.t 79), none, []⟩,
    ⟨5, some 81, .mv (.t 12), (some (80, false)), []⟩,
    ⟨6, some 82, .mv (.t 4), (some (80, false)), []⟩,
    ⟨7, some 83, .eqB true (.t 81) (.t 82), (some (80, false)), []⟩,
    ⟨8, some 84, .pick (.t 80) (.c (.bool true)) (.t 83), none, []⟩])
  (.cond (.t 84) (.seq (.region [⟨0, some 2, .mv (.c (.bool false)), none, []⟩])
  .ret) .skip))
  (.seq (.region [⟨0, some 10, .mv (.c (.int .i64 1)), none, []⟩])
  (.seq (.region [⟨0, some 85, .loadB 1 (some 2) (.t 6), none, []⟩,
    ⟨1, some 86, .mv (.t 10), none, []⟩,
    ⟨2, some 87, .call s_laws_heldReport [(.t 85), (.t 86)], none, []⟩,
    ⟨3, some 10, .mv (.t 87), none, []⟩])
  (.seq (.seq (.region [⟨0, some 88, .mv (.t 10), none, []⟩,
    ⟨1, some 89, .bin .lss (.t 88) (.c (.int .i64 0)), none, []⟩])
  (.cond (.t 89) (.seq (.region [⟨0, some 2, .mv (.c (.bool false)), none, []⟩])
  .ret) .skip))
  (.seq (.seq (.region [⟨0, some 90, .mv (.t 10), none, []⟩,
    ⟨1, some 91, .mv (.t 9), none, []⟩,
    ⟨2, some 92, .bin .neq (.t 90) (.t 91), none, []⟩])
  (.cond (.t 92) (.seq (.region [⟨0, some 2, .mv (.c (.bool false)), none, []⟩])
  .ret) .skip))
  (.seq (.region [⟨0, some 2, .mv (.c (.bool true)), none, []⟩])
  .ret)))))))))))))))))))))))
def f_laws_FnExactReadBits : AFun := ⟨1, 93, 3, true, [.tmp 2], c_laws_FnExactReadBits⟩
@[irreducible] def s_laws_FnExactReadBits : CallSem := funSem f_laws_FnExactReadBits

def c_spec_IsAction : ACode :=
  (.seq (.region [⟨0, some 1, .boxB 0 4 (.t 0), none, []⟩,
    ⟨1, some 2, .mv (.c (.bool false)), none, []⟩])
  (.seq (.region [⟨0, some 6, .fieldA 1 (.t 1), none, []⟩,
    ⟨1, some 7, .loadB 0 none (.t 6), none, []⟩,
    ⟨2, some 8, .call s_spec_l1In [(.t 7), (.c (.int .i64 1)), (.c (.int .i64 56))], none, []⟩,
    ⟨3, some 3, .mv (.t 8), none, []⟩])
  (.seq (.region [⟨0, some 9, .fieldA 2 (.t 1), none, []⟩,
    ⟨1, some 10, .loadB 0 none (.t 9), none, []⟩,
    ⟨2, some 11, .call s_spec_l1In [(.t 10), (.c (.int .i64 1)), (.c (.int .i64 15))], none, []⟩,
    ⟨3, some 4, .mv (.t 11), none, []⟩])
  (.seq (.region [⟨0, some 12, .fieldA 3 (.t 1), none, []⟩,
    ⟨1, some 13, .loadB 0 none (.t 12), none, []⟩,
    ⟨2, some 14, .call s_spec_l1In [(.t 13), (.c (.int .i64 1)), (.c (.int .i64 3))], none, []⟩,
    ⟨3, some 5, .mv (.t 14), none, []⟩])
  (.seq (.seq (.region [⟨0, some 15, .fieldA 0 (.t 1), none, []⟩,
    ⟨1, some 16, .loadB 0 none (.t 15), none, []⟩])
  (.block 0 (.seq (.seq (.region [⟨0, some 18, .bin .eql (.t 16) (.c (.int .i64 0)), none, []⟩,
    ⟨1, some 17, .mv (.t 18), none, []⟩])
  (.cond (.t 17) .skip (.seq (.region [⟨0, some 19, .bin .eql (.t 16) (.c (.int .i64 1)), none, []⟩,
    ⟨1, some 17, .mv (.t 19), none, []⟩])
  (.cond (.t 17) .skip (.region [⟨0, some 20, .bin .eql (.t 16) (.c (.int .i64 10)), none, []⟩,
    ⟨1, some 17, .mv (.t 20), none, []⟩])))))
  (.cond (.t 17) (.seq (.region [⟨0, some 21, .fieldA 1 (.t 1), none, []⟩,
    ⟨1, some 22, .loadB 0 none (.t 21), none, []⟩,
    ⟨2, some 23, .bin .eql (.t 22) (.c (.int .i64 0)), none, []⟩,
    ⟨3, some 24, .mv (.t 23), none, []⟩,
    ⟨4, some 25, .fieldA 2 (.t 1), (some (24, true)), []⟩,
    ⟨5, some 26, .loadB 0 none (.t 25), (some (24, true)), []⟩,
    ⟨6, some 27, .bin .eql (.t 26) (.c (.int .i64 0)), (some (24, true)), []⟩,
    ⟨7, some 28, .pick (.t 24) (.t 27) (.c (.bool false)), none, []⟩,
    ⟨8, some 29, .mv (.t 28), none, []⟩,
    ⟨9, some 30, .fieldA 3 (.t 1), (some (29, true)), []⟩,
    ⟨10, some 31, .loadB 0 none (.t 30), (some (29, true)), []⟩,
    ⟨11, some 32, .bin .eql (.t 31) (.c (.int .i64 0)), (some (29, true)), []⟩,
    ⟨12, some 33, .pick (.t 29) (.t 32) (.c (.bool false)), none, []⟩,
    ⟨13, some 2, .mv (.t 33), none, []⟩])
  .ret) (.seq (.region [⟨0, some 35, .bin .eql (.t 16) (.c (.int .i64 2)), none, []⟩,
    ⟨1, some 34, .mv (.t 35), none, []⟩])
  (.cond (.t 34) (.seq (.region [⟨0, some 36, .fieldA 3 (.t 1), none, []⟩,
    ⟨1, some 37, .loadB 0 none (.t 36), none, []⟩,
    ⟨2, some 38, .bin .eql (.t 37) (.c (.int .i64 0)), none, []⟩,
    ⟨3, some 39, .mv (.t 38), none, []⟩,
    ⟨4, some 40, .mv (.t 3), (some (39, true)), []⟩,
    ⟨5, some 41, .mv (.t 40), (some (39, true)), []⟩,
    ⟨6, some 42, .fieldA 1 (.t 1), (some (41, false)), []⟩,
    ⟨7, some 43, .loadB 0 none (.t 42), (some (41, false)), []⟩,
    ⟨8, some 44, .bin .eql (.t 43) (.c (.int .i64 0)), (some (41, false)), []⟩,
    ⟨9, some 45, .mv (.t 44), (some (41, false)), []⟩,
    ⟨10, some 46, .mv (.t 4), (some (45, true)), []⟩,
    ⟨11, some 47, .pick (.t 45) (.t 46) (.c (.bool false)), (some (41, false)), []⟩,
    ⟨12, some 48, .pick (.t 41) (.c (.bool true)) (.t 47), (some (39, true)), []⟩,
    ⟨13, some 49, .pick (.t 39) (.t 48) (.c (.bool false)), none, []⟩,
    ⟨14, some 50, .mv (.t 49), none, []⟩,
    ⟨15, some 51, .mv (.t 4), (some (50, true)), []⟩,
    ⟨16, some 52, .mv (.t 51), (some (50, true)), []⟩,
    ⟨17, some 53, .fieldA 2 (.t 1), (some (52, false)), []⟩,
    ⟨18, some 54, .loadB 0 none (.t 53), (some (52, false)), []⟩,
    ⟨19, some 55, .bin .eql (.t 54) (.c (.int .i64 0)), (some (52, false)), []⟩,
    ⟨20, some 56, .pick (.t 52) (.c (.bool true)) (.t 55), (some (50, true)), []⟩,
    ⟨21, some 57, .pick (.t 50) (.t 56) (.c (.bool false)), none, []⟩,
    ⟨22, some 2, .mv (.t 57), none, []⟩])
  .ret) (.seq (.seq (.region [⟨0, some 59, .bin .eql (.t 16) (.c (.int .i64 3)), none, []⟩,
    ⟨1, some 58, .mv (.t 59), none, []⟩])
  (.cond (.t 58) .skip (.region [⟨0, some 60, .bin .eql (.t 16) (.c (.int .i64 4)), none, []⟩,
    ⟨1, some 58, .mv (.t 60), none, []⟩])))
  (.cond (.t 58) (.seq (.region [⟨0, some 61, .mv (.t 5), none, []⟩,
    ⟨1, some 62, .mv (.t 61), none, []⟩,
    ⟨2, some 63, .fieldA 1 (.t 1), (some (62, true)), []⟩,
    ⟨3, some 64, .loadB 0 none (.t 63), (some (62, true)), []⟩,
    ⟨4, some 65, .bin .eql (.t 64) (.c (.int .i64 0)), (some (62, true)), []⟩,
    ⟨5, some 66, .pick (.t 62) (.t 65) (.c (.bool false)), none, []⟩,
    ⟨6, some 67, .mv (.t 66), none, []⟩,
    ⟨7, some 68, .fieldA 2 (.t 1), (some (67, true)), []⟩,
    ⟨8, some 69, .loadB 0 none (.t 68), (some (67, true)), []⟩,
    ⟨9, some 70, .bin .eql (.t 69) (.c (.int .i64 0)), (some (67, true)), []⟩,
    ⟨10, some 71, .pick (.t 67) (.t 70) (.c (.bool false)), none, []⟩,
    ⟨11, some 2, .mv (.t 71), none, []⟩])
  .ret) (.seq (.seq (.region [⟨0, some 73, .bin .eql (.t 16) (.c (.int .i64 5)), none, []⟩,
    ⟨1, some 72, .mv (.t 73), none, []⟩])
  (.cond (.t 72) .skip (.region [⟨0, some 74, .bin .eql (.t 16) (.c (.int .i64 9)), none, []⟩,
    ⟨1, some 72, .mv (.t 74), none, []⟩])))
  (.cond (.t 72) (.seq (.region [⟨0, some 75, .fieldA 3 (.t 1), none, []⟩,
    ⟨1, some 76, .loadB 0 none (.t 75), none, []⟩,
    ⟨2, some 77, .call s_spec_l1In [(.t 76), (.c (.int .i64 0)), (.c (.int .i64 3))], none, []⟩,
    ⟨3, some 78, .mv (.t 77), none, []⟩,
    ⟨4, some 79, .fieldA 1 (.t 1), (some (78, true)), []⟩,
    ⟨5, some 80, .loadB 0 none (.t 79), (some (78, true)), []⟩,
    ⟨6, some 81, .bin .eql (.t 80) (.c (.int .i64 0)), (some (78, true)), []⟩,
    ⟨7, some 82, .pick (.t 78) (.t 81) (.c (.bool false)), none, []⟩,
    ⟨8, some 83, .mv (.t 82), none, []⟩,
    ⟨9, some 84, .fieldA 2 (.t 1), (some (83, true)), []⟩,
    ⟨10, some 85, .loadB 0 none (.t 84), (some (83, true)), []⟩,
    ⟨11, some 86, .bin .eql (.t 85) (.c (.int .i64 0)), (some (83, true)), []⟩,
    ⟨12, some 87, .pick (.t 83) (.t 86) (.c (.bool false)), none, []⟩,
    ⟨13, some 2, .mv (.t 87), none, []⟩])
  .ret) (.seq (.region [⟨0, some 89, .bin .eql (.t 16) (.c (.int .i64 6)), none, []⟩,
    ⟨1, some 88, .mv (.t 89), none, []⟩])
  (.cond (.t 88) (.seq (.region [⟨0, some 90, .mv (.t 3), none, []⟩,
    ⟨1, some 91, .mv (.t 90), none, []⟩,
    ⟨2, some 92, .mv (.t 4), (some (91, true)), []⟩,
    ⟨3, some 93, .pick (.t 91) (.t 92) (.c (.bool false)), none, []⟩,
    ⟨4, some 94, .mv (.t 93), none, []⟩,
    ⟨5, some 95, .fieldA 3 (.t 1), (some (94, true)), []⟩,
    ⟨6, some 96, .loadB 0 none (.t 95), (some (94, true)), []⟩,
    ⟨7, some 97, .bin .eql (.t 96) (.c (.int .i64 0)), (some (94, true)), []⟩,
    ⟨8, some 98, .pick (.t 94) (.t 97) (.c (.bool false)), none, []⟩,
    ⟨9, some 2, .mv (.t 98), none, []⟩])
  .ret) (.seq (.region [⟨0, some 100, .bin .eql (.t 16) (.c (.int .i64 7)), none, []⟩,
    ⟨1, some 99, .mv (.t 100), none, []⟩])
  (.cond (.t 99) (.seq (.region [⟨0, some 101, .mv (.t 3), none, []⟩,
    ⟨1, some 102, .mv (.t 101), none, []⟩,
    ⟨2, some 103, .mv (.t 5), (some (102, true)), []⟩,
    ⟨3, some 104, .pick (.t 102) (.t 103) (.c (.bool false)), none, []⟩,
    ⟨4, some 105, .mv (.t 104), none, []⟩,
    ⟨5, some 106, .fieldA 2 (.t 1), (some (105, true)), []⟩,
    ⟨6, some 107, .loadB 0 none (.t 106), (some (105, true)), []⟩,
    ⟨7, some 108, .bin .eql (.t 107) (.c (.int .i64 0)), (some (105, true)), []⟩,
    ⟨8, some 109, .pick (.t 105) (.t 108) (.c (.bool false)), none, []⟩,
    ⟨9, some 2, .mv (.t 109), none, []⟩])
  .ret) (.seq (.region [⟨0, some 111, .bin .eql (.t 16) (.c (.int .i64 8)), none, []⟩,
    ⟨1, some 110, .mv (.t 111), none, []⟩])
  (.cond (.t 110) (.seq (.region [⟨0, some 112, .mv (.t 4), none, []⟩,
    ⟨1, some 113, .mv (.t 112), none, []⟩,
    ⟨2, some 114, .fieldA 1 (.t 1), (some (113, true)), []⟩,
    ⟨3, some 115, .loadB 0 none (.t 114), (some (113, true)), []⟩,
    ⟨4, some 116, .bin .eql (.t 115) (.c (.int .i64 0)), (some (113, true)), []⟩,
    ⟨5, some 117, .pick (.t 113) (.t 116) (.c (.bool false)), none, []⟩,
    ⟨6, some 118, .mv (.t 117), none, []⟩,
    ⟨7, some 119, .fieldA 3 (.t 1), (some (118, true)), []⟩,
    ⟨8, some 120, .loadB 0 none (.t 119), (some (118, true)), []⟩,
    ⟨9, some 121, .bin .eql (.t 120) (.c (.int .i64 0)), (some (118, true)), []⟩,
    ⟨10, some 122, .pick (.t 118) (.t 121) (.c (.bool false)), none, []⟩,
    ⟨11, some 2, .mv (.t 122), none, []⟩])
  .ret) .skip))))))))))))))))
  (.seq (.region [⟨0, some 2, .mv (.c (.bool false)), none, []⟩])
  .ret))))))
def f_spec_IsAction : AFun := ⟨1, 123, 1, true, [.tmp 2], c_spec_IsAction⟩
@[irreducible] def s_spec_IsAction : CallSem := funSem f_spec_IsAction

def c_spec_UnpackAction : ACode :=
  (.seq (.region [⟨0, some 2, .allocB 0 [(.int .i64 0), (.int .i64 0), (.int .i64 0), (.int .i64 0)], none, []⟩,
    ⟨1, some 3, .mv (.c (.bool false)), none, []⟩])
  (.seq (.seq (.region [⟨0, some 5, .mv (.t 0), none, []⟩,
    ⟨1, some 6, .len (.t 5), none, []⟩,
    ⟨2, some 7, .bin .neq (.t 6) (.c (.int .i64 3)), none, []⟩])
  (.cond (.t 7) (.seq (.region [⟨0, some 8, .build [(.int .i64 0), (.int .i64 0), (.int .i64 0), (.int .i64 0)] [], none, []⟩,
    ⟨1, none, .storeB 0 4 (.t 2) (.t 8), none, []⟩,
    ⟨2, some 3, .mv (.c (.bool false)), none, []⟩])
  .ret) .skip))
  (.seq (.region [⟨0, some 9, .mv (.t 0), none, []⟩,
    ⟨1, some 10, .indexA 1 (.t 9) (.c (.int .i64 0)), none, [0]⟩,
    ⟨2, some 11, .loadH none (.t 10), none, [0, 1]⟩,
    ⟨3, some 12, .conv .i64 (.t 11), none, [0, 1, 2]⟩,
    ⟨4, some 13, .bin .quo (.t 12) (.c (.int .i64 16)), none, [0, 1, 2, 3]⟩,
    ⟨5, some 14, .mv (.t 0), none, []⟩,
    ⟨6, some 15, .indexA 1 (.t 14) (.c (.int .i64 0)), none, [5]⟩,
    ⟨7, some 16, .loadH none (.t 15), none, [5, 6]⟩,
    ⟨8, some 17, .conv .i64 (.t 16), none, [5, 6, 7]⟩,
    ⟨9, some 18, .bin .rem (.t 17) (.c (.int .i64 16)), none, [5, 6, 7, 8]⟩,
    ⟨10, some 19, .mv (.t 0), none, []⟩,
    ⟨11, some 20, .indexA 1 (.t 19) (.c (.int .i64 1)), none, [10]⟩,
    ⟨12, some 21, .loadH none (.t 20), none, [10, 11]⟩,
    ⟨13, some 22, .conv .i64 (.t 21), none, [10, 11, 12]⟩,
    ⟨14, some 23, .mv (.t 0), none, []⟩,
    ⟨15, some 24, .indexA 1 (.t 23) (.c (.int .i64 2)), none, [14]⟩,
    ⟨16, some 25, .loadH none (.t 24), none, [14, 15]⟩,
    ⟨17, some 26, .conv .i64 (.t 25), none, [14, 15, 16]⟩,
    ⟨18, some 27, .build [(.int .i64 0), (.int .i64 0), (.int .i64 0), (.int .i64 0)] [(0, 1, (.t 13)), (3, 1, (.t 18)), (1, 1, (.t 22)), (2, 1, (.t 26))], none, [0, 1, 2, 3, 4, 5, 6, 7, 8, 9, 10, 11, 12, 13, 14, 15, 16, 17]⟩,
    ⟨19, some 4, .allocH [(.int .i64 0), (.int .i64 0), (.int .i64 0), (.int .i64 0)], none, []⟩,
    ⟨20, none, .storeH 4 (.t 4) (.t 27), none, [0, 1, 2, 3, 4, 5, 6, 7, 8, 9, 10, 11, 12, 13, 14, 15, 16, 17, 18, 19]⟩])
  (.seq (.seq (.region [⟨0, some 28, .loadH (some 4) (.t 4), none, []⟩,
    ⟨1, some 29, .call s_spec_IsAction [(.t 28)], none, []⟩,
    ⟨2, some 30, .un .not (.t 29), none, []⟩])
  (.cond (.t 30) (.seq (.region [⟨0, some 31, .build [(.int .i64 0), (.int .i64 0), (.int .i64 0), (.int .i64 0)] [], none, []⟩,
    ⟨1, none, .storeB 0 4 (.t 2) (.t 31), none, []⟩,
    ⟨2, some 3, .mv (.c (.bool false)), none, []⟩])
  .ret) .skip))
  (.seq (.region [⟨0, some 32, .loadH (some 4) (.t 4), none, []⟩,
    ⟨1, none, .storeB 0 4 (.t 2) (.t 32), none, []⟩,
    ⟨2, some 3, .mv (.c (.bool true)), none, []⟩])
  .ret)))))
def f_spec_UnpackAction : AFun := ⟨1, 33, 1, true, [.cell 2 (some 4), .tmp 3], c_spec_UnpackAction⟩
@[irreducible] def s_spec_UnpackAction : CallSem := funSem f_spec_UnpackAction

def c_impl_isMods : ACode :=
  (.seq (.region [⟨0, some 2, .mv (.c (.bool false)), none, []⟩])
  (.seq (.region [⟨0, some 3, .mv (.t 0), none, []⟩,
    ⟨1, some 4, .bin .geq (.t 3) (.c (.int .i64 1)), none, []⟩,
    ⟨2, some 5, .mv (.t 4), none, []⟩,
    ⟨3, some 6, .mv (.t 0), (some (5, true)), []⟩,
    ⟨4, some 7, .bin .leq (.t 6) (.c (.int .i64 15)), (some (5, true)), []⟩,
    ⟨5, some 8, .pick (.t 5) (.t 7) (.c (.bool false)), none, []⟩,
    ⟨6, some 2, .mv (.t 8), none, []⟩])
  .ret))
def f_impl_isMods : AFun := ⟨1, 9, 0, true, [.tmp 2], c_impl_isMods⟩
@[irreducible] def s_impl_isMods : CallSem := funSem f_impl_isMods

def c_impl_isUpper : ACode :=
  (.seq (.region [⟨0, some 2, .mv (.c (.bool false)), none, []⟩])
  (.seq (.region [⟨0, some 3, .mv (.t 0), none, []⟩,
    ⟨1, some 4, .bin .geq (.t 3) (.c (.int .i64 1)), none, []⟩,
    ⟨2, some 5, .mv (.t 4), none, []⟩,
    ⟨3, some 6, .mv (.t 0), (some (5, true)), []⟩,
    ⟨4, some 7, .bin .leq (.t 6) (.c (.int .i64 3)), (some (5, true)), []⟩,
    ⟨5, some 8, .pick (.t 5) (.t 7) (.c (.bool false)), none, []⟩,
    ⟨6, some 2, .mv (.t 8), none, []⟩])
  .ret))
def f_impl_isUpper : AFun := ⟨1, 9, 0, true, [.tmp 2], c_impl_isUpper⟩
@[irreducible] def s_impl_isUpper : CallSem := funSem f_impl_isUpper

def c_impl_IsAction : ACode :=
  (.seq (.region [⟨0, some 1, .boxB 0 4 (.t 0), none, []⟩,
    ⟨1, some 2, .mv (.c (.bool false)), none, []⟩])
  (.seq (.seq (.region [⟨0, some 3, .fieldA 0 (.t 1), none, []⟩,
    ⟨1, some 4, .loadB 0 none (.t 3), none, []⟩])
  (.block 0 (.seq (.seq (.region [⟨0, some 6, .bin .eql (.t 4) (.c (.int .i64 0)), none, []⟩,
    ⟨1, some 5, .mv (.t 6), none, []⟩])
  (.cond (.t 5) .skip (.seq (.region [⟨0, some 7, .bin .eql (.t 4) (.c (.int .i64 1)), none, []⟩,
    ⟨1, some 5, .mv (.t 7), none, []⟩])
  (.cond (.t 5) .skip (.region [⟨0, some 8, .bin .eql (.t 4) (.c (.int .i64 10)), none, []⟩,
    ⟨1, some 5, .mv (.t 8), none, []⟩])))))
  (.cond (.t 5) (.seq (.region [⟨0, some 9, .fieldA 1 (.t 1), none, []⟩,
    ⟨1, some 10, .loadB 0 none (.t 9), none, []⟩,
    ⟨2, some 11, .bin .eql (.t 10) (.c (.int .i64 0)), none, []⟩,
    ⟨3, some 12, .mv (.t 11), none, []⟩,
    ⟨4, some 13, .fieldA 2 (.t 1), (some (12, true)), []⟩,
    ⟨5, some 14, .loadB 0 none (.t 13), (some (12, true)), []⟩,
    ⟨6, some 15, .bin .eql (.t 14) (.c (.int .i64 0)), (some (12, true)), []⟩,
    ⟨7, some 16, .pick (.t 12) (.t 15) (.c (.bool false)), none, []⟩,
    ⟨8, some 17, .mv (.t 16), none, []⟩,
    ⟨9, some 18, .fieldA 3 (.t 1), (some (17, true)), []⟩,
    ⟨10, some 19, .loadB 0 none (.t 18), (some (17, true)), []⟩,
    ⟨11, some 20, .bin .eql (.t 19) (.c (.int .i64 0)), (some (17, true)), []⟩,
    ⟨12, some 21, .pick (.t 17) (.t 20) (.c (.bool false)), none, []⟩,
    ⟨13, some 2, .mv (.t 21), none, []⟩])
  .ret) (.seq (.region [⟨0, some 23, .bin .eql (.t 4) (.c (.int .i64 2)), none, []⟩,
    ⟨1, some 22, .mv (.t 23), none, []⟩])
  (.cond (.t 22) (.seq (.region [⟨0, some 24, .fieldA 3 (.t 1), none, []⟩,
    ⟨1, some 25, .loadB 0 none (.t 24), none, []⟩,
    ⟨2, some 26, .bin .eql (.t 25) (.c (.int .i64 0)), none, []⟩,
    ⟨3, some 27, .mv (.t 26), none, []⟩,
    ⟨4, some 28, .fieldA 1 (.t 1), (some (27, true)), []⟩,
    ⟨5, some 29, .loadB 0 none (.t 28), (some (27, true)), []⟩,
    ⟨6, some 30, .bin .eql (.t 29) (.c (.int .i64 0)), (some (27, true)), []⟩,
    ⟨7, some 31, .mv (.t 30), (some (27, true)), []⟩,
    ⟨8, some 32, .fieldA 1 (.t 1), (some (31, false)), []⟩,
    ⟨9, some 33, .loadB 0 none (.t 32), (some (31, false)), []⟩,
    ⟨10, some 34, .call s_impl_isCode [(.t 33)], (some (31, false)), []⟩,
    ⟨11, some 35, .pick (.t 31) (.c (.bool true)) (.t 34), (some (27, true)), []⟩,
    ⟨12, some 36, .pick (.t 27) (.t 35) (.c (.bool false)), none, []⟩,
    ⟨13, some 37, .mv (.t 36), none, []⟩,
    ⟨14, some 38, .fieldA 2 (.t 1), (some (37, true)), []⟩,
    ⟨15, some 39, .loadB 0 none (.t 38), (some (37, true)), []⟩,
    ⟨16, some 40, .bin .eql (.t 39) (.c (.int .i64 0)), (some (37, true)), []⟩,
    ⟨17, some 41, .mv (.t 40), (some (37, true)), []⟩,
    ⟨18, some 42, .fieldA 2 (.t 1), (some (41, false)), []⟩,
    ⟨19, some 43, .loadB 0 none (.t 42), (some (41, false)), []⟩,
    ⟨20, some 44, .call s_impl_isMods [(.t 43)], (some (41, false)), []⟩,
    ⟨21, some 45, .pick (.t 41) (.c (.bool true)) (.t 44), (some (37, true)), []⟩,
    ⟨22, some 46, .pick (.t 37) (.t 45) (.c (.bool false)), none, []⟩,
    ⟨23, some 47, .mv (.t 46), none, []⟩,
    ⟨24, some 48, .fieldA 1 (.t 1), (some (47, true)), []⟩,
    ⟨25, some 49, .loadB 0 none (.t 48), (some (47, true)), []⟩,
    ⟨26, some 50, .bin .neq (.t 49) (.c (.int .i64 0)), (some (47, true)), []⟩,
    ⟨27, some 51, .mv (.t 50), (some (47, true)), []⟩,
    ⟨28, some 52, .fieldA 2 (.t 1), (some (51, false)), []⟩,
    ⟨29, some 53, .loadB 0 none (.t 52), (some (51, false)), []⟩,
    ⟨30, some 54, .bin .neq (.t 53) (.c (.int .i64 0)), (some (51, false)), []⟩,
    ⟨31, some 55, .pick (.t 51) (.c (.bool true)) (.t 54), (some (47, true)), []⟩,
    ⟨32, some 56, .pick (.t 47) (.t 55) (.c (.bool false)), none, []⟩,
    ⟨33, some 2, .mv (.t 56), none, []⟩])
  .ret) (.seq (.seq (.region [⟨0, some 58, .bin .eql (.t 4) (.c (.int .i64 3)), none, []⟩,
    ⟨1, some 57, .mv (.t 58), none, []⟩])
  (.cond (.t 57) .skip (.region [⟨0, some 59, .bin .eql (.t 4) (.c (.int .i64 4)), none, []⟩,
    ⟨1, some 57, .mv (.t 59), none, []⟩])))
  (.cond (.t 57) (.seq (.region [⟨0, some 60, .fieldA 1 (.t 1), none, []⟩,
    ⟨1, some 61, .loadB 0 none (.t 60), none, []⟩,
    ⟨2, some 62, .bin .eql (.t 61) (.c (.int .i64 0)), none, []⟩,
    ⟨3, some 63, .mv (.t 62), none, []⟩,
    ⟨4, some 64, .fieldA 2 (.t 1), (some (63, true)), []⟩,
    ⟨5, some 65, .loadB 0 none (.t 64), (some (63, true)), []⟩,
    ⟨6, some 66, .bin .eql (.t 65) (.c (.int .i64 0)), (some (63, true)), []⟩,
    ⟨7, some 67, .pick (.t 63) (.t 66) (.c (.bool false)), none, []⟩,
    ⟨8, some 68, .mv (.t 67), none, []⟩,
    ⟨9, some 69, .fieldA 3 (.t 1), (some (68, true)), []⟩,
    ⟨10, some 70, .loadB 0 none (.t 69), (some (68, true)), []⟩,
    ⟨11, some 71, .call s_impl_isUpper [(.t 70)], (some (68, true)), []⟩,
    ⟨12, some 72, .pick (.t 68) (.t 71) (.c (.bool false)), none, []⟩,
    ⟨13, some 2, .mv (.t 72), none, []⟩])
  .ret) (.seq (.region [⟨0, some 74, .bin .eql (.t 4) (.c (.int .i64 5)), none, []⟩,
    ⟨1, some 73, .mv (.t 74), none, []⟩])
  (.cond (.t 73) (.seq (.region [⟨0, some 75, .fieldA 1 (.t 1), none, []⟩,
    ⟨1, some 76, .loadB 0 none (.t 75), none, []⟩,
    ⟨2, some 77, .bin .eql (.t 76) (.c (.int .i64 0)), none, []⟩,
    ⟨3, some 78, .mv (.t 77), none, []⟩,
    ⟨4, some 79, .fieldA 2 (.t 1), (some (78, true)), []⟩,
    ⟨5, some 80, .loadB 0 none (.t 79), (some (78, true)), []⟩,
    ⟨6, some 81, .bin .eql (.t 80) (.c (.int .i64 0)), (some (78, true)), []⟩,
    ⟨7, some 82, .pick (.t 78) (.t 81) (.c (.bool false)), none, []⟩,
    ⟨8, some 83, .mv (.t 82), none, []⟩,
    ⟨9, some 84, .fieldA 3 (.t 1), (some (83, true)), []⟩,
    ⟨10, some 85, .loadB 0 none (.t 84), (some (83, true)), []⟩,
    ⟨11, some 86, .bin .geq (.t 85) (.c (.int .i64 0)), (some (83, true)), []⟩,
    ⟨12, some 87, .pick (.t 83) (.t 86) (.c (.bool false)), none, []⟩,
    ⟨13, some 88, .mv (.t 87), none, []⟩,
    ⟨14, some 89, .fieldA 3 (.t 1), (some (88, true)), []⟩,
    ⟨15, some 90, .loadB 0 none (.t 89), (some (88, true)), []⟩,
    ⟨16, some 91, .bin .leq (.t 90) (.c (.int .i64 3)), (some (88, true)), []⟩,
    ⟨17, some 92, .pick (.t 88) (.t 91) (.c (.bool false)), none, []⟩,
    ⟨18, some 2, .mv (.t 92), none, []⟩])
  .ret) (.seq (.region [⟨0, some 94, .bin .eql (.t 4) (.c (.int .i64 9)), none, []⟩,
    ⟨1, some 93, .mv (.t 94), none, []⟩])
  (.cond (.t 93) (.seq (.region [⟨0, some 95, .fieldA 1 (.t 1), none, []⟩,
    ⟨1, some 96, .loadB 0 none (.t 95), none, []⟩,
    ⟨2, some 97, .bin .eql (.t 96) (.c (.int .i64 0)), none, []⟩,
    ⟨3, some 98, .mv (.t 97), none, []⟩,
    ⟨4, some 99, .fieldA 2 (.t 1), (some (98, true)), []⟩,
    ⟨5, some 100, .loadB 0 none (.t 99), (some (98, true)), []⟩,
    ⟨6, some 101, .bin .eql (.t 100) (.c (.int .i64 0)), (some (98, true)), []⟩,
    ⟨7, some 102, .pick (.t 98) (.t 101) (.c (.bool false)), none, []⟩,
    ⟨8, some 103, .mv (.t 102), none, []⟩,
    ⟨9, some 104, .fieldA 3 (.t 1), (some (103, true)), []⟩,
    ⟨10, some 105, .loadB 0 none (.t 104), (some (103, true)), []⟩,
    ⟨11, some 106, .bin .geq (.t 105) (.c (.int .i64 0)), (some (103, true)), []⟩,
    ⟨12, some 107, .pick (.t 103) (.t 106) (.c (.bool false)), none, []⟩,
    ⟨13, some 108, .mv (.t 107), none, []⟩,
    ⟨14, some 109, .fieldA 3 (.t 1), (some (108, true)), []⟩,
    ⟨15, some 110, .loadB 0 none (.t 109), (some (108, true)), []⟩,
    ⟨16, some 111, .bin .leq (.t 110) (.c (.int .i64 3)), (some (108, true)), []⟩,
    ⟨17, some 112, .pick (.t 108) (.t 111) (.c (.bool false)), none, []⟩,
    ⟨18, some 2, .mv (.t 112), none, []⟩])
  .ret) (.seq (.region [⟨0, some 114, .bin .eql (.t 4) (.c (.int .i64 6)), none, []⟩,
    ⟨1, some 113, .mv (.t 114), none, []⟩])
  (.cond (.t 113) (.seq (.region [⟨0, some 115, .fieldA 1 (.t 1), none, []⟩,
    ⟨1, some 116, .loadB 0 none (.t 115), none, []⟩,
    ⟨2, some 117, .call s_impl_isCode [(.t 116)], none, []⟩,
    ⟨3, some 118, .mv (.t 117), none, []⟩,
    ⟨4, some 119, .fieldA 2 (.t 1), (some (118, true)), []⟩,
    ⟨5, some 120, .loadB 0 none (.t 119), (some (118, true)), []⟩,
    ⟨6, some 121, .call s_impl_isMods [(.t 120)], (some (118, true)), []⟩,
    ⟨7, some 122, .pick (.t 118) (.t 121) (.c (.bool false)), none, []⟩,
    ⟨8, some 123, .mv (.t 122), none, []⟩,
    ⟨9, some 124, .fieldA 3 (.t 1), (some (123, true)), []⟩,
    ⟨10, some 125, .loadB 0 none (.t 124), (some (123, true)), []⟩,
    ⟨11, some 126, .bin .eql (.t 125) (.c (.int .i64 0)), (some (123, true)), []⟩,
    ⟨12, some 127, .pick (.t 123) (.t 126) (.c (.bool false)), none, []⟩,
    ⟨13, some 2, .mv (.t 127), none, []⟩])
  .ret) (.seq (.region [⟨0, some 129, .bin .eql (.t 4) (.c (.int .i64 7)), none, []⟩,
    ⟨1, some 128, .mv (.t 129), none, []⟩])
  (.cond (.t 128) (.seq (.region [⟨0, some 130, .fieldA 1 (.t 1), none, []⟩,
    ⟨1, some 131, .loadB 0 none (.t 130), none, []⟩,
    ⟨2, some 132, .call s_impl_isCode [(.t 131)], none, []⟩,
    ⟨3, some 133, .mv (.t 132), none, []⟩,
    ⟨4, some 134, .fieldA 2 (.t 1), (some (133, true)), []⟩,
    ⟨5, some 135, .loadB 0 none (.t 134), (some (133, true)), []⟩,
    ⟨6, some 136, .bin .eql (.t 135) (.c (.int .i64 0)), (some (133, true)), []⟩,
    ⟨7, some 137, .pick (.t 133) (.t 136) (.c (.bool false)), none, []⟩,
    ⟨8, some 138, .mv (.t 137), none, []⟩,
    ⟨9, some 139, .fieldA 3 (.t 1), (some (138, true)), []⟩,
    ⟨10, some 140, .loadB 0 none (.t 139), (some (138, true)), []⟩,
    ⟨11, some 141, .call s_impl_isUpper [(.t 140)], (some (138, true)), []⟩,
    ⟨12, some 142, .pick (.t 138) (.t 141) (.c (.bool false)), none, []⟩,
    ⟨13, some 2, .mv (.t 142), none, []⟩])
  .ret) (.seq (.region [⟨0, some 144, .bin .eql (.t 4) (.c (.int .i64 8)), none, []⟩,
    ⟨1, some 143, .mv (.t 144), none, []⟩])
  (.cond (.t 143) (.seq (.region [⟨0, some 145, .fieldA 1 (.t 1), none, []⟩,
    ⟨1, some 146, .loadB 0 none (.t 145), none, []⟩,
    ⟨2, some 147, .bin .eql (.t 146) (.c (.int .i64 0)), none, []⟩,
    ⟨3, some 148, .mv (.t 147), none, []⟩,
    ⟨4, some 149, .fieldA 2 (.t 1), (some (148, true)), []⟩,
    ⟨5, some 150, .loadB 0 none (.t 149), (some (148, true)), []⟩,
    ⟨6, some 151, .call s_impl_isMods [(.t 150)], (some (148, true)), []⟩,
    ⟨7, some 152, .pick (.t 148) (.t 151) (.c (.bool false)), none, []⟩,
    ⟨8, some 153, .mv (.t 152), none, []⟩,
    ⟨9, some 154, .fieldA 3 (.t 1), (some (153, true)), []⟩,
    ⟨10, some 155, .loadB 0 none (.t 154), (some (153, true)), []⟩,
    ⟨11, some 156, .bin .eql (.t 155) (.c (.int .i64 0)), (some (153, true)), []⟩,
    ⟨12, some 157, .pick (.t 153) (.t 156) (.c (.bool false)), none, []⟩,
    ⟨13, some 2, .mv (.t 157), none, []⟩])
  .ret) .skip))))))))))))))))))
  (.seq (.region [⟨0, some 2, .mv (.c (.bool false)), none, []⟩])
  .ret)))
def f_impl_IsAction : AFun := ⟨1, 158, 1, true, [.tmp 2], c_impl_IsAction⟩
@[irreducible] def s_impl_IsAction : CallSem := funSem f_impl_IsAction

def c_impl_UnpackAction : ACode :=
  (.seq (.region [⟨0, some 2, .allocB 0 [(.int .i64 0), (.int .i64 0), (.int .i64 0), (.int .i64 0)], none, []⟩,
    ⟨1, some 3, .mv (.c (.bool false)), none, []⟩])
  (.seq (.seq (.region [⟨0, some 5, .mv (.t 0), none, []⟩,
    ⟨1, some 6, .len (.t 5), none, []⟩,
    ⟨2, some 7, .bin .neq (.t 6) (.c (.int .i64 3)), none, []⟩])
  (.cond (.t 7) (.seq (.region [⟨0, some 8, .build [(.int .i64 0), (.int .i64 0), (.int .i64 0), (.int .i64 0)] [], none, []⟩,
    ⟨1, none, .storeB 0 4 (.t 2) (.t 8), none, []⟩,
    ⟨2, some 3, .mv (.c (.bool false)), none, []⟩])
  .ret) .skip))
  (.seq (.region [⟨0, some 9, .mv (.t 0), none, []⟩,
    ⟨1, some 10, .indexA 1 (.t 9) (.c (.int .i64 0)), none, [0]⟩,
    ⟨2, some 11, .loadH none (.t 10), none, [0, 1]⟩,
    ⟨3, some 12, .conv .i64 (.t 11), none, [0, 1, 2]⟩,
    ⟨4, some 13, .bin .quo (.t 12) (.c (.int .i64 16)), none, [0, 1, 2, 3]⟩,
    ⟨5, some 14, .mv (.t 0), none, []⟩,
    ⟨6, some 15, .indexA 1 (.t 14) (.c (.int .i64 1)), none, [5]⟩,
    ⟨7, some 16, .loadH none (.t 15), none, [5, 6]⟩,
    ⟨8, some 17, .conv .i64 (.t 16), none, [5, 6, 7]⟩,
    ⟨9, some 18, .mv (.t 0), none, []⟩,
    ⟨10, some 19, .indexA 1 (.t 18) (.c (.int .i64 2)), none, [9]⟩,
    ⟨11, some 20, .loadH none (.t 19), none, [9, 10]⟩,
    ⟨12, some 21, .conv .i64 (.t 20), none, [9, 10, 11]⟩,
    ⟨13, some 22, .mv (.t 0), none, []⟩,
    ⟨14, some 23, .indexA 1 (.t 22) (.c (.int .i64 0)), none, [13]⟩,
    ⟨15, some 24, .loadH none (.t 23), none, [13, 14]⟩,
    ⟨16, some 25, .conv .i64 (.t 24), none, [13, 14, 15]⟩,
    ⟨17, some 26, .bin .rem (.t 25) (.c (.int .i64 16)), none, [13, 14, 15, 16]⟩,
    ⟨18, some 27, .build [(.int .i64 0), (.int .i64 0), (.int .i64 0), (.int .i64 0)] [(0, 1, (.t 13)), (1, 1, (.t 17)), (2, 1, (.t 21)), (3, 1, (.t 26))], none, [0, 1, 2, 3, 4, 5, 6, 7, 8, 9, 10, 11, 12, 13, 14, 15, 16, 17]⟩,
    ⟨19, some 4, .allocH [(.int .i64 0), (.int .i64 0), (.int .i64 0), (.int .i64 0)], none, []⟩,
    ⟨20, none, .storeH 4 (.t 4) (.t 27), none, [0, 1, 2, 3, 4, 5, 6, 7, 8, 9, 10, 11, 12, 13, 14, 15, 16, 17, 18, 19]⟩])
  (.seq (.seq (.region [⟨0, some 28, .loadH (some 4) (.t 4), none, []⟩,
    ⟨1, some 29, .call s_impl_IsAction [(.t 28)], none, []⟩,
    ⟨2, some 30, .un .not (.t 29), none, []⟩])
  (.cond (.t 30) (.seq (.region [⟨0, some 31, .build [(.int .i64 0), (.int .i64 0), (.int .i64 0), (.int .i64 0)] [], none, []⟩,
    ⟨1, none, .storeB 0 4 (.t 2) (.t 31), none, []⟩,
    ⟨2, some 3, .mv (.c (.bool false)), none, []⟩])
  .ret) .skip))
  (.seq (.region [⟨0, some 32, .loadH (some 4) (.t 4), none, []⟩,
    ⟨1, none, .storeB 0 4 (.t 2) (.t 32), none, []⟩,
    ⟨2, some 3, .mv (.c (.bool true)), none, []⟩])
  .ret)))))
def f_impl_UnpackAction : AFun := ⟨1, 33, 1, true, [.cell 2 (some 4), .tmp 3], c_impl_UnpackAction⟩
@[irreducible] def s_impl_UnpackAction : CallSem := funSem f_impl_UnpackAction

def c_laws_eqAction : ACode :=
  (.seq (.region [⟨0, some 2, .boxB 0 4 (.t 0), none, []⟩,
    ⟨1, some 3, .boxB 1 4 (.t 1), none, []⟩,
    ⟨2, some 4, .mv (.c (.bool false)), none, []⟩])
  (.seq (.seq (.region [⟨0, some 5, .fieldA 0 (.t 2), none, []⟩,
    ⟨1, some 6, .loadB 0 none (.t 5), none, []⟩,
    ⟨2, some 7, .fieldA 0 (.t 3), none, []⟩,
    ⟨3, some 8, .loadB 1 none (.t 7), none, []⟩,
    ⟨4, some 9, .bin .neq (.t 6) (.t 8), none, []⟩])
  (.cond (.t 9) (.seq (.region [⟨0, some 4, .mv (.c (.bool false)), none, []⟩])
  .ret) .skip))
  (.seq (.seq (.region [⟨0, some 10, .fieldA 1 (.t 2), none, []⟩,
    ⟨1, some 11, .loadB 0 none (.t 10), none, []⟩,
    ⟨2, some 12, .fieldA 1 (.t 3), none, []⟩,
    ⟨3, some 13, .loadB 1 none (.t 12), none, []⟩,
    ⟨4, some 14, .bin .neq (.t 11) (.t 13), none, []⟩])
  (.cond (.t 14) (.seq (.region [⟨0, some 4, .mv (.c (.bool false)), none, []⟩])
  .ret) .skip))
  (.seq (.seq (.region [⟨0, some 15, .fieldA 2 (.t 2), none, []⟩,
    ⟨1, some 16, .loadB 0 none (.t 15), none, []⟩,
    ⟨2, some 17, .fieldA 2 (.t 3), none, []⟩,
    ⟨3, some 18, .loadB 1 none (.t 17), none, []⟩,
    ⟨4, some 19, .bin .neq (.t 16) (.t 18), none, []⟩])
  (.cond (.t 19) (.seq (.region [⟨0, some 4, .mv (.c (.bool false)), none, []⟩])
  .ret) .skip))
  (.seq (.seq (.region [⟨0, some 20, .fieldA 3 (.t 2), none, []⟩,
    ⟨1, some 21, .loadB 0 none (.t 20), none, []⟩,
    ⟨2, some 22, .fieldA 3 (.t 3), none, []⟩,
    ⟨3, some 23, .loadB 1 none (.t 22), none, []⟩,
    ⟨4, some 24, .bin .neq (.t 21) (.t 23), none, []⟩])
  (.cond (.t 24) (.seq (.region [⟨0, some 4, .mv (.c (.bool false)), none, []⟩])
  .ret) .skip))
  (.seq (.region [⟨0, some 4, .mv (.c (.bool true)), none, []⟩])
  .ret))))))
def f_laws_eqAction : AFun := ⟨2, 25, 2, true, [.tmp 4], c_laws_eqAction⟩
@[irreducible] def s_laws_eqAction : CallSem := funSem f_laws_eqAction

def c_laws_FnExactUnpackAction : ACode :=
  (.seq (.region [⟨0, some 2, .mv (.c (.bool false)), none, []⟩])
  (.seq (.seq (.region [⟨0, some 8, .mv (.t 0), none, []⟩,
    ⟨1, some 9, .len (.t 8), none, []⟩,
    ⟨2, some 10, .bin .gtr (.t 9) (.c (.int .i64 1048576)), none, []⟩])
  (.cond (.t 10) (.seq (.region [⟨0, some 2, .mv (.c (.bool true)), none, []⟩])
  .ret) .skip))
  (.seq (.region [⟨0, some 12, .mv (.t 0), none, []⟩,
    ⟨1, some 13, .call s_laws_toByteS [(.t 12)], none, []⟩,
    ⟨2, some 14, .call s_spec_UnpackAction [(.t 13)], none, []⟩,
    ⟨3, some 11, .mv (.t 14), none, []⟩,
    ⟨4, some 15, .extract (.t 11) 0, none, []⟩,
    ⟨5, some 16, .extract (.t 11) 1, none, []⟩,
    ⟨6, some 3, .allocB 0 [(.int .i64 0), (.int .i64 0), (.int .i64 0), (.int .i64 0)], none, []⟩,
    ⟨7, none, .storeB 0 4 (.t 3) (.t 15), none, []⟩,
    ⟨8, some 4, .mv (.t 16), none, []⟩])
  (.seq (.region [⟨0, some 17, .mv (.t 0), none, []⟩,
    ⟨1, some 18, .call s_laws_toByteS [(.t 17)], none, []⟩,
    ⟨2, some 5, .mv (.t 18), none, []⟩])
  (.seq (.region [⟨0, some 20, .mv (.t 5), none, []⟩,
    ⟨1, some 21, .call s_impl_UnpackAction [(.t 20)], none, []⟩,
    ⟨2, some 19, .mv (.t 21), none, []⟩,
    ⟨3, some 22, .extract (.t 19) 0, none, []⟩,
    ⟨4, some 23, .extract (.t 19) 1, none, []⟩,
    ⟨5, some 6, .allocB 1 [(.int .i64 0), (.int .i64 0), (.int .i64 0), (.int .i64 0)], none, []⟩,
    ⟨6, none, .storeB 1 4 (.t 6) (.t 22), none, []⟩,
    ⟨7, some 7, .mv (.t 23), none, []⟩])
  (.seq (.seq (.region [⟨0, some 24, .loadB 1 (some 4) (.t 6), none, []⟩,
    ⟨1, some 25, .loadB 0 (some 4) (.t 3), none, []⟩,
    ⟨2, some 26, .call s_laws_eqAction [(.t 24), (.t 25)], none, []⟩,
    ⟨3, some 27, .un .not (.t 26), none, []⟩,
    ⟨4, some 28, .mv (.t 27), none, []⟩,
    ⟨5, some 29, .mv (.t 7), (some (28, false)), []⟩,
    ⟨6, some 30, .mv (.t 4), (some (28, false)), []⟩,
    ⟨7, some 31, .eqB true (.t 29) (.t 30), (some (28, false)), []⟩,
    ⟨8, some 32, .pick (.t 28) (.c (.bool true)) (.t 31), none, []⟩])
  (.cond (.t 32) (.seq (.region [⟨0, some 2, .mv (.c (.bool false)), none, []⟩])
  .ret) .skip))
  (.seq (.seq (.region [⟨0, some 33, .mv (.t 5), none, []⟩,
    ⟨1, some 34, .mv (.t 0), none, []⟩,
    ⟨2, some 35, .call s_laws_toByteS [(.t 34)], none, []⟩,
    ⟨3, some 36, .call s_laws_eqByteS [(.t 33), (.t 35)], none, []⟩,
    ⟨4, some 37, .un .not (.t 36), none, []⟩])
  (.cond (.t 37) (.seq (.region [⟨0, some 2, .mv (.c (.bool false)), none, []⟩])
  .ret) .skip))
  (.seq (.region [⟨0, some 2, .mv (.c (.bool true)), none, []⟩])
  .ret))))))))
def f_laws_FnExactUnpackAction : AFun := ⟨1, 38, 2, true, [.tmp 2], c_laws_FnExactUnpackAction⟩
@[irreducible] def s_laws_FnExactUnpackAction : CallSem := funSem f_laws_FnExactUnpackAction

end Go.Ag
