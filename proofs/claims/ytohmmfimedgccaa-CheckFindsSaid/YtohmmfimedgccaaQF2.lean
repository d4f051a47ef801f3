import Derived.Test.YtohmmfimedgccaaQF1
/- CheckFinds returns true at every input. PART 3 OF 8: TY SG OK PL G86 G87 G88 G122 G38 G39 G40 G41 G42 G43 G10 -/
section
namespace Go.Proofs.Ytohmmfimedgccaa.E
set_option linter.unusedVariables false
abbrev C_s (s : ByteArray) : List PV := [.v (.string s)]
structure runtime_boundsError where
 x : Int
 y : Int
 signed : Bool
 code : Int
 deriving DecidableEq
instance : Inhabited runtime_boundsError := ⟨(runtime_boundsError.mk (0 : Int) (0 : Int) false (0 : Int))⟩
def runtime_boundsError.cl (x : runtime_boundsError) : List PV := [(.v (.int .i64 x.x)), (.v (.int .i64 x.y)), (.v (.bool x.signed)), (.v (.int .u8 x.code))]
theorem runtime_boundsError.cn (x : runtime_boundsError) : CnL (runtime_boundsError.cl x) := (CnL.cons (.v _) (CnL.cons (.v _) (CnL.cons (.v _) (CnL.cons (.v _) CnL.nil))))
structure Expr where
 kind : Int
 name : ByteArray
 n : Int
 d : Int
 args : (List Expr)
 at_ : Int
instance : Inhabited Expr := ⟨(Expr.mk (0 : Int) (⟨#[]⟩ : ByteArray) (0 : Int) (0 : Int) ([] : (List Expr)) (0 : Int))⟩
mutual
def Expr.cl0 : Expr → List PV
 | ⟨k, s, n, d, xs, a⟩ => [.v (.int .i64 k), .v (.string s), .v (.int .i64 n), .v (.int .i64 d), .sl (Expr.rows xs), .v (.int .i64 a)]
def Expr.rows : List Expr → List (List PV)
 | [] => []
 | e :: l => Expr.cl0 e :: Expr.rows l
end
def Expr.cl (x : Expr) : List PV := [.v (.int .i64 x.kind), .v (.string x.name), .v (.int .i64 x.n), .v (.int .i64 x.d), .sl (Expr.rows x.args), .v (.int .i64 x.at_)]
theorem Expr.cl0_eq (x : Expr) : Expr.cl0 x = Expr.cl x := by cases x; simp [Expr.cl0, Expr.cl]
theorem Expr.rows_eq : ∀ l : List Expr, Expr.rows l = l.map Expr.cl
 | [] => by simp [Expr.rows]
 | e :: l => by simp [Expr.rows, Expr.rows_eq l, Expr.cl0_eq]
theorem Expr.rlen (l : List Expr) : (Expr.rows l).length = l.length := by rw [Expr.rows_eq, List.length_map]
theorem Expr.rget {l : List Expr} {i : Nat} {x : Expr} (h : l[i]? = some x) : (Expr.rows l)[i]? = some (Expr.cl x) := by rw [Expr.rows_eq]; exact map_get h
theorem Expr.ind {p : Expr → Prop} (h : ∀ k s n d xs a, (∀ e ∈ xs, p e) → p ⟨k, s, n, d, xs, a⟩) (e : Expr) : p e :=
 Expr.rec (motive_1 := p) (motive_2 := fun l => ∀ e ∈ l, p e) (fun k s n d xs a ih => h k s n d xs a ih) (by simp) (fun e l h1 h2 => by
  intro x hx
  rcases List.mem_cons.1 hx with rfl | hx
  ·exact h1
  ·exact h2 x hx) e
theorem Expr.cn (x : Expr) : CnL (Expr.cl x) := by
 induction x using Expr.ind with
 | h k s n d xs a ih =>
  refine CnL.cons (.v _) (CnL.cons (.v _) (CnL.cons (.v _) (CnL.cons (.v _) (CnL.cons ?_ (CnL.cons (.v _) CnL.nil)))))
  show Cn (.sl (Expr.rows xs))
  rw [Expr.rows_eq]
  refine .sl fun r hr p hp => ?_
  obtain ⟨x, hx, rfl⟩ := List.mem_map.1 hr
  exact ih x hx p hp
theorem Expr.cnr (l : List Expr) : Cn (.sl (Expr.rows l)) := by rw [Expr.rows_eq]; exact Cn.rows Expr.cn l
theorem Expr.rall (l : List Expr) : ∀ r ∈ Expr.rows l, r.length = 6 := by rw [Expr.rows_eq]; exact map_len (f := Expr.cl) (n := 6) (fun _ => rfl) l
structure Node where
 name : ByteArray
 params : (List ByteArray)
 budget : Int
 body : Expr
 at_ : Int
instance : Inhabited Node := ⟨(Node.mk (⟨#[]⟩ : ByteArray) ([] : (List ByteArray)) (0 : Int) (Expr.mk (0 : Int) (⟨#[]⟩ : ByteArray) (0 : Int) (0 : Int) ([] : (List Expr)) (0 : Int)) (0 : Int))⟩
def Node.cl (x : Node) : List PV := [(.v (.string x.name)), (.sl (List.map C_s x.params)), (.v (.int .i64 x.budget)), (.v (.int .i64 x.body.kind)), (.v (.string x.body.name)), (.v (.int .i64 x.body.n)), (.v (.int .i64 x.body.d)), (.sl (Expr.rows x.body.args)), (.v (.int .i64 x.body.at_)), (.v (.int .i64 x.at_))]
theorem Node.cn (x : Node) : CnL (Node.cl x) := (CnL.cons (.v _) (CnL.cons (Cn.rows (fun _ => CnL.cons (.v _) CnL.nil) _) (CnL.cons (.v _) (CnL.cons (.v _) (CnL.cons (.v _) (CnL.cons (.v _) (CnL.cons (.v _) (CnL.cons (Expr.cnr _) (CnL.cons (.v _) (CnL.cons (.v _) CnL.nil))))))))))
structure Flow where
 name : ByteArray
 e : Expr
 at_ : Int
instance : Inhabited Flow := ⟨(Flow.mk (⟨#[]⟩ : ByteArray) (Expr.mk (0 : Int) (⟨#[]⟩ : ByteArray) (0 : Int) (0 : Int) ([] : (List Expr)) (0 : Int)) (0 : Int))⟩
def Flow.cl (x : Flow) : List PV := [(.v (.string x.name)), (.v (.int .i64 x.e.kind)), (.v (.string x.e.name)), (.v (.int .i64 x.e.n)), (.v (.int .i64 x.e.d)), (.sl (Expr.rows x.e.args)), (.v (.int .i64 x.e.at_)), (.v (.int .i64 x.at_))]
theorem Flow.cn (x : Flow) : CnL (Flow.cl x) := (CnL.cons (.v _) (CnL.cons (.v _) (CnL.cons (.v _) (CnL.cons (.v _) (CnL.cons (.v _) (CnL.cons (Expr.cnr _) (CnL.cons (.v _) (CnL.cons (.v _) CnL.nil))))))))
structure Input where
 name : ByteArray
 period : Int
 phase : Int
 at_ : Int
 deriving DecidableEq
instance : Inhabited Input := ⟨(Input.mk (⟨#[]⟩ : ByteArray) (0 : Int) (0 : Int) (0 : Int))⟩
def Input.cl (x : Input) : List PV := [(.v (.string x.name)), (.v (.int .i64 x.period)), (.v (.int .i64 x.phase)), (.v (.int .i64 x.at_))]
theorem Input.cn (x : Input) : CnL (Input.cl x) := (CnL.cons (.v _) (CnL.cons (.v _) (CnL.cons (.v _) (CnL.cons (.v _) CnL.nil))))
structure Output where
 name : ByteArray
 flow : ByteArray
 deadline : Int
 at_ : Int
 deriving DecidableEq
instance : Inhabited Output := ⟨(Output.mk (⟨#[]⟩ : ByteArray) (⟨#[]⟩ : ByteArray) (0 : Int) (0 : Int))⟩
def Output.cl (x : Output) : List PV := [(.v (.string x.name)), (.v (.string x.flow)), (.v (.int .i64 x.deadline)), (.v (.int .i64 x.at_))]
theorem Output.cn (x : Output) : CnL (Output.cl x) := (CnL.cons (.v _) (CnL.cons (.v _) (CnL.cons (.v _) (CnL.cons (.v _) CnL.nil))))
structure Program where
 nodes : (List Node)
 inputs : (List Input)
 flows : (List Flow)
 outputs : (List Output)
instance : Inhabited Program := ⟨(Program.mk ([] : (List Node)) ([] : (List Input)) ([] : (List Flow)) ([] : (List Output)))⟩
def Program.cl (x : Program) : List PV := [(.sl (List.map Node.cl x.nodes)), (.sl (List.map Input.cl x.inputs)), (.sl (List.map Flow.cl x.flows)), (.sl (List.map Output.cl x.outputs))]
theorem Program.cn (x : Program) : CnL (Program.cl x) := (CnL.cons (Cn.rows Node.cn _) (CnL.cons (Cn.rows Input.cn _) (CnL.cons (Cn.rows Flow.cn _) (CnL.cons (Cn.rows Output.cn _) CnL.nil))))
structure Clock where
 period : Int
 phase : Int
 deriving DecidableEq
instance : Inhabited Clock := ⟨(Clock.mk (0 : Int) (0 : Int))⟩
def Clock.cl (x : Clock) : List PV := [(.v (.int .i64 x.period)), (.v (.int .i64 x.phase))]
theorem Clock.cn (x : Clock) : CnL (Clock.cl x) := (CnL.cons (.v _) (CnL.cons (.v _) CnL.nil))
structure Op where
 kind : Int
 n : Int
 d : Int
 deriving DecidableEq
instance : Inhabited Op := ⟨(Op.mk (0 : Int) (0 : Int) (0 : Int))⟩
def Op.cl (x : Op) : List PV := [(.v (.int .i64 x.kind)), (.v (.int .i64 x.n)), (.v (.int .i64 x.d))]
theorem Op.cn (x : Op) : CnL (Op.cl x) := (CnL.cons (.v _) (CnL.cons (.v _) (CnL.cons (.v _) CnL.nil)))
structure Arg where
 src : Int
 ops : (List Op)
 deriving DecidableEq
instance : Inhabited Arg := ⟨(Arg.mk (0 : Int) ([] : (List Op)))⟩
def Arg.cl (x : Arg) : List PV := [(.v (.int .i64 x.src)), (.sl (List.map Op.cl x.ops))]
theorem Arg.cn (x : Arg) : CnL (Arg.cl x) := (CnL.cons (.v _) (CnL.cons (Cn.rows Op.cn _) CnL.nil))
structure Task where
 node : Int
 clock : Clock
 args : (List Arg)
 deriving DecidableEq
instance : Inhabited Task := ⟨(Task.mk (0 : Int) (Clock.mk (0 : Int) (0 : Int)) ([] : (List Arg)))⟩
def Task.cl (x : Task) : List PV := [(.v (.int .i64 x.node)), (.v (.int .i64 x.clock.period)), (.v (.int .i64 x.clock.phase)), (.sl (List.map Arg.cl x.args))]
theorem Task.cn (x : Task) : CnL (Task.cl x) := (CnL.cons (.v _) (CnL.cons (.v _) (CnL.cons (.v _) (CnL.cons (Cn.rows Arg.cn _) CnL.nil))))
structure Tell where
 clock : Clock
 arg : Arg
 deadline : Int
 deriving DecidableEq
instance : Inhabited Tell := ⟨(Tell.mk (Clock.mk (0 : Int) (0 : Int)) (Arg.mk (0 : Int) ([] : (List Op))) (0 : Int))⟩
def Tell.cl (x : Tell) : List PV := [(.v (.int .i64 x.clock.period)), (.v (.int .i64 x.clock.phase)), (.v (.int .i64 x.arg.src)), (.sl (List.map Op.cl x.arg.ops)), (.v (.int .i64 x.deadline))]
theorem Tell.cn (x : Tell) : CnL (Tell.cl x) := (CnL.cons (.v _) (CnL.cons (.v _) (CnL.cons (.v _) (CnL.cons (Cn.rows Op.cn _) (CnL.cons (.v _) CnL.nil)))))
structure Flat where
 inputs : (List Clock)
 nodes : (List Node)
 tasks : (List Task)
 tells : (List Tell)
instance : Inhabited Flat := ⟨(Flat.mk ([] : (List Clock)) ([] : (List Node)) ([] : (List Task)) ([] : (List Tell)))⟩
def Flat.cl (x : Flat) : List PV := [(.sl (List.map Clock.cl x.inputs)), (.sl (List.map Node.cl x.nodes)), (.sl (List.map Task.cl x.tasks)), (.sl (List.map Tell.cl x.tells))]
theorem Flat.cn (x : Flat) : CnL (Flat.cl x) := (CnL.cons (Cn.rows Clock.cn _) (CnL.cons (Cn.rows Node.cn _) (CnL.cons (Cn.rows Task.cn _) (CnL.cons (Cn.rows Tell.cn _) CnL.nil))))
structure ref08_Place where
 flow : Int
 at_ : Int
 deriving DecidableEq
instance : Inhabited ref08_Place := ⟨(ref08_Place.mk (0 : Int) (0 : Int))⟩
def ref08_Place.cl (x : ref08_Place) : List PV := [(.v (.int .i64 x.flow)), (.v (.int .i64 x.at_))]
theorem ref08_Place.cn (x : ref08_Place) : CnL (ref08_Place.cl x) := (CnL.cons (.v _) (CnL.cons (.v _) CnL.nil))
structure lex_Token where
 kind : Int
 text : ByteArray
 n : Int
 at_ : Int
 deriving DecidableEq
instance : Inhabited lex_Token := ⟨(lex_Token.mk (0 : Int) (⟨#[]⟩ : ByteArray) (0 : Int) (0 : Int))⟩
def lex_Token.cl (x : lex_Token) : List PV := [(.v (.int .i64 x.kind)), (.v (.string x.text)), (.v (.int .i64 x.n)), (.v (.int .i64 x.at_))]
theorem lex_Token.cn (x : lex_Token) : CnL (lex_Token.cl x) := (CnL.cons (.v _) (CnL.cons (.v _) (CnL.cons (.v _) (CnL.cons (.v _) CnL.nil))))
structure check_finder where
 at_ : Int
 e : Int
 deriving DecidableEq
instance : Inhabited check_finder := ⟨(check_finder.mk (0 : Int) (0 : Int))⟩
def check_finder.cl (x : check_finder) : List PV := [(.v (.int .i64 x.at_)), (.v (.int .i64 x.e))]
theorem check_finder.cn (x : check_finder) : CnL (check_finder.cl x) := (CnL.cons (.v _) (CnL.cons (.v _) CnL.nil))
structure check_solver where
 finder : check_finder
 known : (Mp Clock)
instance : Inhabited check_solver := ⟨(check_solver.mk (check_finder.mk (0 : Int) (0 : Int)) (Mp.emp : (Mp Clock)))⟩
structure flat_call where
 node : Int
 args : (List Expr)
 ways : (List ByteArray)
instance : Inhabited flat_call := ⟨(flat_call.mk (0 : Int) ([] : (List Expr)) ([] : (List ByteArray)))⟩
def flat_call.cl (x : flat_call) : List PV := [(.v (.int .i64 x.node)), (.sl (Expr.rows x.args)), (.sl (List.map C_s x.ways))]
theorem flat_call.cn (x : flat_call) : CnL (flat_call.cl x) := (CnL.cons (.v _) (CnL.cons (Expr.cnr _) (CnL.cons (Cn.rows (fun _ => CnL.cons (.v _) CnL.nil) _) CnL.nil)))
structure flat_maker where
 p : Program
 flows : (Mp Int)
 calls : (List flat_call)
 at_ : (Mp Int)
 error : Int
 e : Int
instance : Inhabited flat_maker := ⟨(flat_maker.mk (Program.mk ([] : (List Node)) ([] : (List Input)) ([] : (List Flow)) ([] : (List Output))) (Mp.emp : (Mp Int)) ([] : (List flat_call)) (Mp.emp : (Mp Int)) (0 : Int) (0 : Int))⟩
structure syntax_reader where
 l : (List lex_Token)
 end_ : Int
 pos : Int
 at_ : Int
 e : Int
 p : Program
instance : Inhabited syntax_reader := ⟨(syntax_reader.mk ([] : (List lex_Token)) (0 : Int) (0 : Int) (0 : Int) (0 : Int) (Program.mk ([] : (List Node)) ([] : (List Input)) ([] : (List Flow)) ([] : (List Output))))⟩
def syntax_reader.cl (x : syntax_reader) : List PV := [(.sl (List.map lex_Token.cl x.l)), (.v (.int .i64 x.end_)), (.v (.int .i64 x.pos)), (.v (.int .i64 x.at_)), (.v (.int .i64 x.e)), (.sl (List.map Node.cl x.p.nodes)), (.sl (List.map Input.cl x.p.inputs)), (.sl (List.map Flow.cl x.p.flows)), (.sl (List.map Output.cl x.p.outputs))]
theorem syntax_reader.cn (x : syntax_reader) : CnL (syntax_reader.cl x) := (CnL.cons (Cn.rows lex_Token.cn _) (CnL.cons (.v _) (CnL.cons (.v _) (CnL.cons (.v _) (CnL.cons (.v _) (CnL.cons (Cn.rows Node.cn _) (CnL.cons (Cn.rows Input.cn _) (CnL.cons (Cn.rows Flow.cn _) (CnL.cons (Cn.rows Output.cn _) CnL.nil)))))))))
theorem T_2 : T 2 = some ⟨1, 8, false, false, [(.i .i64)], .int .i64⟩ := rfl
theorem T_3 : T 3 = some ⟨1, 8, false, false, [(.i .i64)], .int .i64⟩ := rfl
theorem T_5 : T 5 = some ⟨1, 1, false, false, [(.i .u8)], .int .u8⟩ := rfl
theorem T_9 : T 9 = some ⟨1, 16, false, false, [.s], .str⟩ := rfl
theorem T_22 : T 22 = some ⟨1, 24, false, false, [.sl], .slc 99⟩ := rfl
theorem T_23 : T 23 = some ⟨1, 24, false, false, [.sl], .slc 96⟩ := rfl
theorem T_24 : T 24 = some ⟨1, 24, false, false, [.sl], .slc 41⟩ := rfl
theorem T_25 : T 25 = some ⟨1, 24, false, false, [.sl], .slc 65⟩ := rfl
theorem T_27 : T 27 = some ⟨4, 96, true, false, [.sl, .sl, .sl, .sl], .st [(0, 22), (1, 23), (2, 24), (3, 25)]⟩ := rfl
theorem T_30 : T 30 = some ⟨1, 8, false, false, [(.i .i64)], .int .i64⟩ := rfl
theorem T_33 : T 33 = some ⟨1, 24, false, false, [.sl], .slc 43⟩ := rfl
theorem T_37 : T 37 = some ⟨1, 24, false, false, [.sl], .slc 39⟩ := rfl
theorem T_39 : T 39 = some ⟨6, 72, true, false, [(.i .i64), .s, (.i .i64), (.i .i64), .sl, (.i .i64)], .st [(0, 3), (1, 9), (2, 2), (3, 2), (4, 37), (5, 3)]⟩ := rfl
theorem T_41 : T 41 = some ⟨8, 96, true, false, [.s, (.i .i64), .s, (.i .i64), (.i .i64), .sl, (.i .i64), (.i .i64)], .st [(0, 9), (1, 39), (7, 3)]⟩ := rfl
theorem T_43 : T 43 = some ⟨2, 16, true, true, [(.i .i64), (.i .i64)], .st [(0, 2), (1, 2)]⟩ := rfl
theorem T_65 : T 65 = some ⟨4, 48, true, true, [.s, .s, (.i .i64), (.i .i64)], .st [(0, 9), (1, 9), (2, 2), (3, 3)]⟩ := rfl
theorem T_96 : T 96 = some ⟨4, 40, true, true, [.s, (.i .i64), (.i .i64), (.i .i64)], .st [(0, 9), (1, 2), (2, 2), (3, 3)]⟩ := rfl
theorem T_97 : T 97 = some ⟨1, 24, false, false, [.sl], .slc 9⟩ := rfl
theorem T_99 : T 99 = some ⟨10, 128, true, false, [.s, .sl, (.i .i64), (.i .i64), .s, (.i .i64), (.i .i64), .sl, (.i .i64), (.i .i64)], .st [(0, 9), (1, 97), (2, 2), (3, 39), (9, 3)]⟩ := rfl
theorem T_104 : T 104 = some ⟨1, 8, false, false, [.p], .other⟩ := rfl
theorem T_106 : T 106 = some ⟨2, 16, true, true, [(.i .i64), (.i .i64)], .st [(0, 3), (1, 30)]⟩ := rfl
theorem T_107 : T 107 = some ⟨1, 8, false, false, [.m], .map 9 3⟩ := rfl
theorem T_112 : T 112 = some ⟨1, 8, false, false, [.f], .other⟩ := rfl
theorem T_119 : T 119 = some ⟨3, 24, true, true, [(.i .i64), (.i .i64), (.i .i64)], .st [(0, 3), (1, 2), (2, 2)]⟩ := rfl
theorem T_120 : T 120 = some ⟨1, 8, false, false, [.p], .other⟩ := rfl
theorem T_121 : T 121 = some ⟨1, 8, false, false, [.m], .map 9 43⟩ := rfl
theorem T_123 : T 123 = some ⟨3, 24, true, false, [(.i .i64), (.i .i64), .m], .st [(0, 106), (2, 121)]⟩ := rfl
def Sp_law06_CheckFinds (a0 : Program) (r : Bool) : Prop := ∀ (σ : Store) (K : PV → Store → Prop), K (.v (.bool r)) σ → EC Try.prog 4 [(.ag [(.sl (List.map Node.cl a0.nodes)), (.sl (List.map Input.cl a0.inputs)), (.sl (List.map Flow.cl a0.flows)), (.sl (List.map Output.cl a0.outputs))])] σ K
def Sat_law06_CheckFinds (F : Program → Option Bool) : Prop := ∀ (a0 : Program) (r : Bool), F a0 = some r → Sp_law06_CheckFinds a0 r
def Sp_law06_awake  (r : Bool) : Prop := ∀ (σ : Store) (K : PV → Store → Prop), K (.v (.bool r)) σ → EC Try.prog 9 [] σ K
def Sat_law06_awake (F : Option Bool) : Prop := ∀ (r : Bool), F = some r → Sp_law06_awake r
def Sp_ref04_Right (a0 : Program) (r : Bool) : Prop := ∀ (σ : Store) (K : PV → Store → Prop), K (.v (.bool r)) σ → EC Try.prog 10 [(.ag [(.sl (List.map Node.cl a0.nodes)), (.sl (List.map Input.cl a0.inputs)), (.sl (List.map Flow.cl a0.flows)), (.sl (List.map Output.cl a0.outputs))])] σ K
def Sat_ref04_Right (F : Program → Option Bool) : Prop := ∀ (a0 : Program) (r : Bool), F a0 = some r → Sp_ref04_Right a0 r
def Sp_check_Names (a0 : Program) (r : (Int × Int)) : Prop := ∀ (σ : Store) (K : PV → Store → Prop), K (.tu [(.v (.int .i64 r.1)), (.v (.int .i64 r.2))]) σ → EC Try.prog 11 [(.ag [(.sl (List.map Node.cl a0.nodes)), (.sl (List.map Input.cl a0.inputs)), (.sl (List.map Flow.cl a0.flows)), (.sl (List.map Output.cl a0.outputs))])] σ K
def Sat_check_Names (F : Program → Option (Int × Int)) : Prop := ∀ (a0 : Program) (r : (Int × Int)), F a0 = some r → Sp_check_Names a0 r
def Sp_check_Check (a0 : Program) (r : ((List Clock) × Int × Int)) : Prop := ∀ (σ : Store) (K : PV → Store → Prop), K (.tu [(.sl (List.map Clock.cl r.1)), (.v (.int .i64 r.2.1)), (.v (.int .i64 r.2.2))]) σ → EC Try.prog 12 [(.ag [(.sl (List.map Node.cl a0.nodes)), (.sl (List.map Input.cl a0.inputs)), (.sl (List.map Flow.cl a0.flows)), (.sl (List.map Output.cl a0.outputs))])] σ K
def Sat_check_Check (F : Program → Option ((List Clock) × Int × Int)) : Prop := ∀ (a0 : Program) (r : ((List Clock) × Int × Int)), F a0 = some r → Sp_check_Check a0 r
def Sp_ref06_Names (a0 : Program) (r : Bool) : Prop := ∀ (σ : Store) (K : PV → Store → Prop), K (.v (.bool r)) σ → EC Try.prog 13 [(.ag [(.sl (List.map Node.cl a0.nodes)), (.sl (List.map Input.cl a0.inputs)), (.sl (List.map Flow.cl a0.flows)), (.sl (List.map Output.cl a0.outputs))])] σ K
def Sat_ref06_Names (F : Program → Option Bool) : Prop := ∀ (a0 : Program) (r : Bool), F a0 = some r → Sp_ref06_Names a0 r
def Sp_law06_ahead (a0 : Program) (a1 : Expr) (a2 : Int) (r : Bool) : Prop := ∀ (σ : Store) (K : PV → Store → Prop), K (.v (.bool r)) σ → EC Try.prog 14 [(.ag [(.sl (List.map Node.cl a0.nodes)), (.sl (List.map Input.cl a0.inputs)), (.sl (List.map Flow.cl a0.flows)), (.sl (List.map Output.cl a0.outputs))]), (.ag [(.v (.int .i64 a1.kind)), (.v (.string a1.name)), (.v (.int .i64 a1.n)), (.v (.int .i64 a1.d)), (.sl (Expr.rows a1.args)), (.v (.int .i64 a1.at_))]), (.v (.int .i64 a2))] σ K
def Sat_law06_ahead (F : Program → Expr → Int → Option Bool) : Prop := ∀ (a0 : Program) (a1 : Expr) (a2 : Int) (r : Bool), F a0 a1 a2 = some r → Sp_law06_ahead a0 a1 a2 r
def Sp_ref06_Clock (a0 : Program) (a1 : (List Clock)) (a2 : Expr) (r : (Clock × Bool)) : Prop := ∀ (σ : Store) (K : PV → Store → Prop), K (.tu [(.ag [(.v (.int .i64 r.1.period)), (.v (.int .i64 r.1.phase))]), (.v (.bool r.2))]) σ → EC Try.prog 15 [(.ag [(.sl (List.map Node.cl a0.nodes)), (.sl (List.map Input.cl a0.inputs)), (.sl (List.map Flow.cl a0.flows)), (.sl (List.map Output.cl a0.outputs))]), (.sl (List.map Clock.cl a1)), (.ag [(.v (.int .i64 a2.kind)), (.v (.string a2.name)), (.v (.int .i64 a2.n)), (.v (.int .i64 a2.d)), (.sl (Expr.rows a2.args)), (.v (.int .i64 a2.at_))])] σ K
def Sat_ref06_Clock (F : Program → (List Clock) → Expr → Option (Clock × Bool)) : Prop := ∀ (a0 : Program) (a1 : (List Clock)) (a2 : Expr) (r : (Clock × Bool)), F a0 a1 a2 = some r → Sp_ref06_Clock a0 a1 a2 r
def Sp_check_Clocks (a0 : Program) (r : ((List Clock) × Int × Int)) : Prop := ∀ (σ : Store) (K : PV → Store → Prop), K (.tu [(.sl (List.map Clock.cl r.1)), (.v (.int .i64 r.2.1)), (.v (.int .i64 r.2.2))]) σ → EC Try.prog 16 [(.ag [(.sl (List.map Node.cl a0.nodes)), (.sl (List.map Input.cl a0.inputs)), (.sl (List.map Flow.cl a0.flows)), (.sl (List.map Output.cl a0.outputs))])] σ K
def Sat_check_Clocks (F : Program → Option ((List Clock) × Int × Int)) : Prop := ∀ (a0 : Program) (r : ((List Clock) × Int × Int)), F a0 = some r → Sp_check_Clocks a0 r
def Sp_ref06_Node (a0 : Program) (a1 : ByteArray) (r : Int) : Prop := ∀ (σ : Store) (K : PV → Store → Prop), K (.v (.int .i64 r)) σ → EC Try.prog 23 [(.ag [(.sl (List.map Node.cl a0.nodes)), (.sl (List.map Input.cl a0.inputs)), (.sl (List.map Flow.cl a0.flows)), (.sl (List.map Output.cl a0.outputs))]), (.v (.string a1))] σ K
def Sat_ref06_Node (F : Program → ByteArray → Option Int) : Prop := ∀ (a0 : Program) (a1 : ByteArray) (r : Int), F a0 a1 = some r → Sp_ref06_Node a0 a1 r
def Sp_ref06_Flow (a0 : Program) (a1 : ByteArray) (r : Int) : Prop := ∀ (σ : Store) (K : PV → Store → Prop), K (.v (.int .i64 r)) σ → EC Try.prog 25 [(.ag [(.sl (List.map Node.cl a0.nodes)), (.sl (List.map Input.cl a0.inputs)), (.sl (List.map Flow.cl a0.flows)), (.sl (List.map Output.cl a0.outputs))]), (.v (.string a1))] σ K
def Sat_ref06_Flow (F : Program → ByteArray → Option Int) : Prop := ∀ (a0 : Program) (a1 : ByteArray) (r : Int), F a0 a1 = some r → Sp_ref06_Flow a0 a1 r
def Sp_ref03_Right (a0 : ByteArray) (r : Bool) : Prop := ∀ (σ : Store) (K : PV → Store → Prop), K (.v (.bool r)) σ → EC Try.prog 38 [(.v (.string a0))] σ K
def Sat_ref03_Right (F : ByteArray → Option Bool) : Prop := ∀ (a0 : ByteArray) (r : Bool), F a0 = some r → Sp_ref03_Right a0 r
def Sp_ref04_number (a0 : Int) (a1 : Int) (a2 : Int) (r : Bool) : Prop := ∀ (σ : Store) (K : PV → Store → Prop), K (.v (.bool r)) σ → EC Try.prog 39 [(.v (.int .i64 a0)), (.v (.int .i64 a1)), (.v (.int .i64 a2))] σ K
def Sat_ref04_number (F : Int → Int → Int → Option Bool) : Prop := ∀ (a0 : Int) (a1 : Int) (a2 : Int) (r : Bool), F a0 a1 a2 = some r → Sp_ref04_number a0 a1 a2 r
def Sp_ref04_Size (a0 : Expr) (a1 : Int) (r : Int) : Prop := ∀ (σ : Store) (K : PV → Store → Prop), K (.v (.int .i64 r)) σ → EC Try.prog 40 [(.ag [(.v (.int .i64 a0.kind)), (.v (.string a0.name)), (.v (.int .i64 a0.n)), (.v (.int .i64 a0.d)), (.sl (Expr.rows a0.args)), (.v (.int .i64 a0.at_))]), (.v (.int .i64 a1))] σ K
def Sat_ref04_Size (F : Expr → Int → Option Int) : Prop := ∀ (a0 : Expr) (a1 : Int) (r : Int), F a0 a1 = some r → Sp_ref04_Size a0 a1 r
def Sp_ref04_Depth (a0 : Expr) (a1 : Int) (r : Int) : Prop := ∀ (σ : Store) (K : PV → Store → Prop), K (.v (.int .i64 r)) σ → EC Try.prog 41 [(.ag [(.v (.int .i64 a0.kind)), (.v (.string a0.name)), (.v (.int .i64 a0.n)), (.v (.int .i64 a0.d)), (.sl (Expr.rows a0.args)), (.v (.int .i64 a0.at_))]), (.v (.int .i64 a1))] σ K
def Sat_ref04_Depth (F : Expr → Int → Option Int) : Prop := ∀ (a0 : Expr) (a1 : Int) (r : Int), F a0 a1 = some r → Sp_ref04_Depth a0 a1 r
def Sp_ref04_Body (a0 : Expr) (r : Bool) : Prop := ∀ (σ : Store) (K : PV → Store → Prop), K (.v (.bool r)) σ → EC Try.prog 42 [(.ag [(.v (.int .i64 a0.kind)), (.v (.string a0.name)), (.v (.int .i64 a0.n)), (.v (.int .i64 a0.d)), (.sl (Expr.rows a0.args)), (.v (.int .i64 a0.at_))])] σ K
def Sat_ref04_Body (F : Expr → Option Bool) : Prop := ∀ (a0 : Expr) (r : Bool), F a0 = some r → Sp_ref04_Body a0 r
def Sp_ref04_Expr (a0 : Expr) (r : Bool) : Prop := ∀ (σ : Store) (K : PV → Store → Prop), K (.v (.bool r)) σ → EC Try.prog 43 [(.ag [(.v (.int .i64 a0.kind)), (.v (.string a0.name)), (.v (.int .i64 a0.n)), (.v (.int .i64 a0.d)), (.sl (Expr.rows a0.args)), (.v (.int .i64 a0.at_))])] σ K
def Sat_ref04_Expr (F : Expr → Option Bool) : Prop := ∀ (a0 : Expr) (r : Bool), F a0 = some r → Sp_ref04_Expr a0 r
def Sp_check_finder_fresh (a0 : check_finder) (a1 : (Mp Int)) (a2 : ByteArray) (a3 : Int) (r : (Unit × check_finder × (Mp Int))) : Prop := ∀ (σ : Store) (K : PV → Store → Prop) (j0 : Nat) (j1 : Nat), Gx σ j0 (AObj.box 106 [(.v (.int .i64 a0.at_)), (.v (.int .i64 a0.e))]) → Gx σ j1 (AObj.map .s (mpF (fun v : Int => (PV.v (.int .i64 v))) (Mp.get a1)) (Mp.n a1)) → K (.tu []) (List.set (List.set σ j0 (some (AObj.box 106 [(.v (.int .i64 r.2.1.at_)), (.v (.int .i64 r.2.1.e))]))) j1 (some (AObj.map .s (mpF (fun v : Int => (PV.v (.int .i64 v))) (Mp.get r.2.2)) (Mp.n r.2.2)))) → EC Try.prog 44 [(.pt j0 0), (.mp j1), (.v (.string a2)), (.v (.int .i64 a3))] σ K
def Sat_check_finder_fresh (F : check_finder → (Mp Int) → ByteArray → Int → Option (Unit × check_finder × (Mp Int))) : Prop := ∀ (a0 : check_finder) (a1 : (Mp Int)) (a2 : ByteArray) (a3 : Int) (r : (Unit × check_finder × (Mp Int))), F a0 a1 a2 a3 = some r → Sp_check_finder_fresh a0 a1 a2 a3 r
def Sp_check_finder_node (a0 : check_finder) (a1 : Node) (r : (Unit × check_finder)) : Prop := ∀ (σ : Store) (K : PV → Store → Prop) (j0 : Nat), Gx σ j0 (AObj.box 106 [(.v (.int .i64 a0.at_)), (.v (.int .i64 a0.e))]) → K (.tu []) (List.set σ j0 (some (AObj.box 106 [(.v (.int .i64 r.2.at_)), (.v (.int .i64 r.2.e))]))) → EC Try.prog 45 [(.pt j0 0), (.ag [(.v (.string a1.name)), (.sl (List.map C_s a1.params)), (.v (.int .i64 a1.budget)), (.v (.int .i64 a1.body.kind)), (.v (.string a1.body.name)), (.v (.int .i64 a1.body.n)), (.v (.int .i64 a1.body.d)), (.sl (Expr.rows a1.body.args)), (.v (.int .i64 a1.body.at_)), (.v (.int .i64 a1.at_))])] σ K
def Sat_check_finder_node (F : check_finder → Node → Option (Unit × check_finder)) : Prop := ∀ (a0 : check_finder) (a1 : Node) (r : (Unit × check_finder)), F a0 a1 = some r → Sp_check_finder_node a0 a1 r
def Sp_check_finder_expr (a0 : check_finder) (a1 : Expr) (a2 : (Mp Int)) (a3 : (Mp Int)) (r : (Unit × check_finder)) : Prop := ∀ (σ : Store) (K : PV → Store → Prop) (j0 : Nat) (j2 : Nat) (j3 : Nat), Gx σ j0 (AObj.box 106 [(.v (.int .i64 a0.at_)), (.v (.int .i64 a0.e))]) → Gx σ j2 (AObj.map .s (mpF (fun v : Int => (PV.v (.int .i64 v))) (Mp.get a2)) (Mp.n a2)) → Gx σ j3 (AObj.map .s (mpF (fun v : Int => (PV.v (.int .i64 v))) (Mp.get a3)) (Mp.n a3)) → K (.tu []) (List.set σ j0 (some (AObj.box 106 [(.v (.int .i64 r.2.at_)), (.v (.int .i64 r.2.e))]))) → EC Try.prog 46 [(.pt j0 0), (.ag [(.v (.int .i64 a1.kind)), (.v (.string a1.name)), (.v (.int .i64 a1.n)), (.v (.int .i64 a1.d)), (.sl (Expr.rows a1.args)), (.v (.int .i64 a1.at_))]), (.mp j2), (.mp j3)] σ K
def Sat_check_finder_expr (F : check_finder → Expr → (Mp Int) → (Mp Int) → Option (Unit × check_finder)) : Prop := ∀ (a0 : check_finder) (a1 : Expr) (a2 : (Mp Int)) (a3 : (Mp Int)) (r : (Unit × check_finder)), F a0 a1 a2 a3 = some r → Sp_check_finder_expr a0 a1 a2 a3 r
def Sp_slices_ContainsFunc_Flow (a0 : (List Flow)) (a1 : (Flow → Option Bool)) (r : Bool) : Prop := ∀ (σ : Store) (K : PV → Store → Prop) (fid1 : FuncId) (caps1 : List PV), (∀ (x0 : Flow) (b : Bool), a1 x0 = some b → ∀ (s : Store) (K : PV → Store → Prop), Pre σ s → K (.v (.bool b)) s → EC Try.prog fid1 ((.ag [(.v (.string x0.name)), (.v (.int .i64 x0.e.kind)), (.v (.string x0.e.name)), (.v (.int .i64 x0.e.n)), (.v (.int .i64 x0.e.d)), (.sl (Expr.rows x0.e.args)), (.v (.int .i64 x0.e.at_)), (.v (.int .i64 x0.at_))]) :: caps1) s K) → K (.v (.bool r)) σ → EC Try.prog 47 [(.sl (List.map Flow.cl a0)), (.fn fid1 [] caps1)] σ K
def Sat_slices_ContainsFunc_Flow (F : (List Flow) → (Flow → Option Bool) → Option Bool) : Prop := ∀ (a0 : (List Flow)) (a1 : (Flow → Option Bool)) (r : Bool), F a0 a1 = some r → Sp_slices_ContainsFunc_Flow a0 a1 r
def Sp_check_Names_c1 (a0 : Flow) (a1 : Output) (r : Bool) : Prop := ∀ (σ : Store) (K : PV → Store → Prop) (j1 : Nat), Gx σ j1 (AObj.box 65 [(.v (.string a1.name)), (.v (.string a1.flow)), (.v (.int .i64 a1.deadline)), (.v (.int .i64 a1.at_))]) → K (.v (.bool r)) σ → EC Try.prog 48 [(.ag [(.v (.string a0.name)), (.v (.int .i64 a0.e.kind)), (.v (.string a0.e.name)), (.v (.int .i64 a0.e.n)), (.v (.int .i64 a0.e.d)), (.sl (Expr.rows a0.e.args)), (.v (.int .i64 a0.e.at_)), (.v (.int .i64 a0.at_))]), (.pt j1 0)] σ K
def Sat_check_Names_c1 (F : Flow → Output → Option Bool) : Prop := ∀ (a0 : Flow) (a1 : Output) (r : Bool), F a0 a1 = some r → Sp_check_Names_c1 a0 a1 r
def Sp_check_finder_fail (a0 : check_finder) (a1 : Int) (a2 : Int) (r : (Unit × check_finder)) : Prop := ∀ (σ : Store) (K : PV → Store → Prop) (j0 : Nat), Gx σ j0 (AObj.box 106 [(.v (.int .i64 a0.at_)), (.v (.int .i64 a0.e))]) → K (.tu []) (List.set σ j0 (some (AObj.box 106 [(.v (.int .i64 r.2.at_)), (.v (.int .i64 r.2.e))]))) → EC Try.prog 49 [(.pt j0 0), (.v (.int .i64 a1)), (.v (.int .i64 a2))] σ K
def Sat_check_finder_fail (F : check_finder → Int → Int → Option (Unit × check_finder)) : Prop := ∀ (a0 : check_finder) (a1 : Int) (a2 : Int) (r : (Unit × check_finder)), F a0 a1 a2 = some r → Sp_check_finder_fail a0 a1 a2 r
def Sp_ref06_body (a0 : Node) (a1 : Expr) (r : Bool) : Prop := ∀ (σ : Store) (K : PV → Store → Prop), K (.v (.bool r)) σ → EC Try.prog 50 [(.ag [(.v (.string a0.name)), (.sl (List.map C_s a0.params)), (.v (.int .i64 a0.budget)), (.v (.int .i64 a0.body.kind)), (.v (.string a0.body.name)), (.v (.int .i64 a0.body.n)), (.v (.int .i64 a0.body.d)), (.sl (Expr.rows a0.body.args)), (.v (.int .i64 a0.body.at_)), (.v (.int .i64 a0.at_))]), (.ag [(.v (.int .i64 a1.kind)), (.v (.string a1.name)), (.v (.int .i64 a1.n)), (.v (.int .i64 a1.d)), (.sl (Expr.rows a1.args)), (.v (.int .i64 a1.at_))])] σ K
def Sat_ref06_body (F : Node → Expr → Option Bool) : Prop := ∀ (a0 : Node) (a1 : Expr) (r : Bool), F a0 a1 = some r → Sp_ref06_body a0 a1 r
def Sp_ref06_expr (a0 : Program) (a1 : Expr) (r : Bool) : Prop := ∀ (σ : Store) (K : PV → Store → Prop), K (.v (.bool r)) σ → EC Try.prog 51 [(.ag [(.sl (List.map Node.cl a0.nodes)), (.sl (List.map Input.cl a0.inputs)), (.sl (List.map Flow.cl a0.flows)), (.sl (List.map Output.cl a0.outputs))]), (.ag [(.v (.int .i64 a1.kind)), (.v (.string a1.name)), (.v (.int .i64 a1.n)), (.v (.int .i64 a1.d)), (.sl (Expr.rows a1.args)), (.v (.int .i64 a1.at_))])] σ K
def Sat_ref06_expr (F : Program → Expr → Option Bool) : Prop := ∀ (a0 : Program) (a1 : Expr) (r : Bool), F a0 a1 = some r → Sp_ref06_expr a0 a1 r
def Sp_ref02_Apply (a0 : Clock) (a1 : Op) (r : (Clock × Int)) : Prop := ∀ (σ : Store) (K : PV → Store → Prop), K (.tu [(.ag [(.v (.int .i64 r.1.period)), (.v (.int .i64 r.1.phase))]), (.v (.int .i64 r.2))]) σ → EC Try.prog 52 [(.ag [(.v (.int .i64 a0.period)), (.v (.int .i64 a0.phase))]), (.ag [(.v (.int .i64 a1.kind)), (.v (.int .i64 a1.n)), (.v (.int .i64 a1.d))])] σ K
def Sat_ref02_Apply (F : Clock → Op → Option (Clock × Int)) : Prop := ∀ (a0 : Clock) (a1 : Op) (r : (Clock × Int)), F a0 a1 = some r → Sp_ref02_Apply a0 a1 r
def Sp_check_solver_round (a0 : check_solver) (a1 : (List Flow)) (r : (Bool × check_solver)) : Prop := ∀ (σ : Store) (K : PV → Store → Prop) (j0 : Nat) (j0_2 : Nat), Gx σ j0 (AObj.box 123 [(.v (.int .i64 a0.finder.at_)), (.v (.int .i64 a0.finder.e)), (.mp j0_2)]) → Gx σ j0_2 (AObj.map .s (mpF (fun v : Clock => (PV.ag [(.v (.int .i64 v.period)), (.v (.int .i64 v.phase))])) (Mp.get a0.known)) (Mp.n a0.known)) → K (.v (.bool r.1)) (List.set (List.set σ j0 (some (AObj.box 123 [(.v (.int .i64 r.2.finder.at_)), (.v (.int .i64 r.2.finder.e)), (.mp j0_2)]))) j0_2 (some (AObj.map .s (mpF (fun v : Clock => (PV.ag [(.v (.int .i64 v.period)), (.v (.int .i64 v.phase))])) (Mp.get r.2.known)) (Mp.n r.2.known)))) → EC Try.prog 53 [(.pt j0 0), (.sl (List.map Flow.cl a1))] σ K
def Sat_check_solver_round (F : check_solver → (List Flow) → Option (Bool × check_solver)) : Prop := ∀ (a0 : check_solver) (a1 : (List Flow)) (r : (Bool × check_solver)), F a0 a1 = some r → Sp_check_solver_round a0 a1 r
def Sp_check_solver_calls (a0 : check_solver) (a1 : Expr) (r : (Unit × check_solver)) : Prop := ∀ (σ : Store) (K : PV → Store → Prop) (j0 : Nat) (j0_2 : Nat), Gx σ j0 (AObj.box 123 [(.v (.int .i64 a0.finder.at_)), (.v (.int .i64 a0.finder.e)), (.mp j0_2)]) → Gx σ j0_2 (AObj.map .s (mpF (fun v : Clock => (PV.ag [(.v (.int .i64 v.period)), (.v (.int .i64 v.phase))])) (Mp.get a0.known)) (Mp.n a0.known)) → K (.tu []) (List.set (List.set σ j0 (some (AObj.box 123 [(.v (.int .i64 r.2.finder.at_)), (.v (.int .i64 r.2.finder.e)), (.mp j0_2)]))) j0_2 (some (AObj.map .s (mpF (fun v : Clock => (PV.ag [(.v (.int .i64 v.period)), (.v (.int .i64 v.phase))])) (Mp.get r.2.known)) (Mp.n r.2.known)))) → EC Try.prog 54 [(.pt j0 0), (.ag [(.v (.int .i64 a1.kind)), (.v (.string a1.name)), (.v (.int .i64 a1.n)), (.v (.int .i64 a1.d)), (.sl (Expr.rows a1.args)), (.v (.int .i64 a1.at_))])] σ K
def Sat_check_solver_calls (F : check_solver → Expr → Option (Unit × check_solver)) : Prop := ∀ (a0 : check_solver) (a1 : Expr) (r : (Unit × check_solver)), F a0 a1 = some r → Sp_check_solver_calls a0 a1 r
def Sp_check_solver_of (a0 : check_solver) (a1 : Expr) (r : ((Clock × Bool) × check_solver)) : Prop := ∀ (σ : Store) (K : PV → Store → Prop) (j0 : Nat) (j0_2 : Nat), Gx σ j0 (AObj.box 123 [(.v (.int .i64 a0.finder.at_)), (.v (.int .i64 a0.finder.e)), (.mp j0_2)]) → Gx σ j0_2 (AObj.map .s (mpF (fun v : Clock => (PV.ag [(.v (.int .i64 v.period)), (.v (.int .i64 v.phase))])) (Mp.get a0.known)) (Mp.n a0.known)) → K (.tu [(.ag [(.v (.int .i64 r.1.1.period)), (.v (.int .i64 r.1.1.phase))]), (.v (.bool r.1.2))]) (List.set (List.set σ j0 (some (AObj.box 123 [(.v (.int .i64 r.2.finder.at_)), (.v (.int .i64 r.2.finder.e)), (.mp j0_2)]))) j0_2 (some (AObj.map .s (mpF (fun v : Clock => (PV.ag [(.v (.int .i64 v.period)), (.v (.int .i64 v.phase))])) (Mp.get r.2.known)) (Mp.n r.2.known)))) → EC Try.prog 55 [(.pt j0 0), (.ag [(.v (.int .i64 a1.kind)), (.v (.string a1.name)), (.v (.int .i64 a1.n)), (.v (.int .i64 a1.d)), (.sl (Expr.rows a1.args)), (.v (.int .i64 a1.at_))])] σ K
def Sat_check_solver_of (F : check_solver → Expr → Option ((Clock × Bool) × check_solver)) : Prop := ∀ (a0 : check_solver) (a1 : Expr) (r : ((Clock × Bool) × check_solver)), F a0 a1 = some r → Sp_check_solver_of a0 a1 r
def Sp_ref02_Right (a0 : Clock) (r : Bool) : Prop := ∀ (σ : Store) (K : PV → Store → Prop), K (.v (.bool r)) σ → EC Try.prog 61 [(.ag [(.v (.int .i64 a0.period)), (.v (.int .i64 a0.phase))])] σ K
def Sat_ref02_Right (F : Clock → Option Bool) : Prop := ∀ (a0 : Clock) (r : Bool), F a0 = some r → Sp_ref02_Right a0 r
def Sp_clock_Right (a0 : Clock) (r : Bool) : Prop := ∀ (σ : Store) (K : PV → Store → Prop), K (.v (.bool r)) σ → EC Try.prog 65 [(.ag [(.v (.int .i64 a0.period)), (.v (.int .i64 a0.phase))])] σ K
def Sat_clock_Right (F : Clock → Option Bool) : Prop := ∀ (a0 : Clock) (r : Bool), F a0 = some r → Sp_clock_Right a0 r
def Sp_ref03_small (a0 : Int) (r : Bool) : Prop := ∀ (σ : Store) (K : PV → Store → Prop), K (.v (.bool r)) σ → EC Try.prog 86 [(.v (.int .u8 a0))] σ K
def Sat_ref03_small (F : Int → Option Bool) : Prop := ∀ (a0 : Int) (r : Bool), F a0 = some r → Sp_ref03_small a0 r
def Sp_ref03_digit (a0 : Int) (r : Bool) : Prop := ∀ (σ : Store) (K : PV → Store → Prop), K (.v (.bool r)) σ → EC Try.prog 87 [(.v (.int .u8 a0))] σ K
def Sat_ref03_digit (F : Int → Option Bool) : Prop := ∀ (a0 : Int) (r : Bool), F a0 = some r → Sp_ref03_digit a0 r
def Sp_ref03_Word (a0 : ByteArray) (r : Bool) : Prop := ∀ (σ : Store) (K : PV → Store → Prop), K (.v (.bool r)) σ → EC Try.prog 88 [(.v (.string a0))] σ K
def Sat_ref03_Word (F : ByteArray → Option Bool) : Prop := ∀ (a0 : ByteArray) (r : Bool), F a0 = some r → Sp_ref03_Word a0 r
def Sp_ref06_param (a0 : Node) (a1 : ByteArray) (r : Bool) : Prop := ∀ (σ : Store) (K : PV → Store → Prop), K (.v (.bool r)) σ → EC Try.prog 91 [(.ag [(.v (.string a0.name)), (.sl (List.map C_s a0.params)), (.v (.int .i64 a0.budget)), (.v (.int .i64 a0.body.kind)), (.v (.string a0.body.name)), (.v (.int .i64 a0.body.n)), (.v (.int .i64 a0.body.d)), (.sl (Expr.rows a0.body.args)), (.v (.int .i64 a0.body.at_)), (.v (.int .i64 a0.at_))]), (.v (.string a1))] σ K
def Sat_ref06_param (F : Node → ByteArray → Option Bool) : Prop := ∀ (a0 : Node) (a1 : ByteArray) (r : Bool), F a0 a1 = some r → Sp_ref06_param a0 a1 r
def Sp_clock_Apply (a0 : Clock) (a1 : Op) (r : (Clock × Int)) : Prop := ∀ (σ : Store) (K : PV → Store → Prop), K (.tu [(.ag [(.v (.int .i64 r.1.period)), (.v (.int .i64 r.1.phase))]), (.v (.int .i64 r.2))]) σ → EC Try.prog 92 [(.ag [(.v (.int .i64 a0.period)), (.v (.int .i64 a0.phase))]), (.ag [(.v (.int .i64 a1.kind)), (.v (.int .i64 a1.n)), (.v (.int .i64 a1.d))])] σ K
def Sat_clock_Apply (F : Clock → Op → Option (Clock × Int)) : Prop := ∀ (a0 : Clock) (a1 : Op) (r : (Clock × Int)), F a0 a1 = some r → Sp_clock_Apply a0 a1 r
def Sp_lex_Words  (r : (List ByteArray)) : Prop := ∀ (σ : Store) (K : PV → Store → Prop), K (.sl (List.map C_s r)) σ → EC Try.prog 122 [] σ K
def Sat_lex_Words (F : Option (List ByteArray)) : Prop := ∀ (r : (List ByteArray)), F = some r → Sp_lex_Words r
def Sp_clock_factor (a0 : Op) (r : Int) : Prop := ∀ (σ : Store) (K : PV → Store → Prop), K (.v (.int .i64 r)) σ → EC Try.prog 123 [(.ag [(.v (.int .i64 a0.kind)), (.v (.int .i64 a0.n)), (.v (.int .i64 a0.d))])] σ K
def Sat_clock_factor (F : Op → Option Int) : Prop := ∀ (a0 : Op) (r : Int), F a0 = some r → Sp_clock_factor a0 r
def Sp_check_finder_fail_in_check_solver (a0 : check_solver) (a1 : Int) (a2 : Int) (r : (Unit × check_solver)) : Prop := ∀ (σ : Store) (K : PV → Store → Prop) (j0 : Nat) (j0_2 : Nat), Gx σ j0 (AObj.box 123 [(.v (.int .i64 a0.finder.at_)), (.v (.int .i64 a0.finder.e)), (.mp j0_2)]) → Gx σ j0_2 (AObj.map .s (mpF (fun v : Clock => (PV.ag [(.v (.int .i64 v.period)), (.v (.int .i64 v.phase))])) (Mp.get a0.known)) (Mp.n a0.known)) → K (.tu []) (List.set (List.set σ j0 (some (AObj.box 123 [(.v (.int .i64 r.2.finder.at_)), (.v (.int .i64 r.2.finder.e)), (.mp j0_2)]))) j0_2 (some (AObj.map .s (mpF (fun v : Clock => (PV.ag [(.v (.int .i64 v.period)), (.v (.int .i64 v.phase))])) (Mp.get r.2.known)) (Mp.n r.2.known)))) → EC Try.prog 49 [(.pt j0 0), (.v (.int .i64 a1)), (.v (.int .i64 a2))] σ K
def Sat_check_finder_fail_in_check_solver (F : check_solver → Int → Int → Option (Unit × check_solver)) : Prop := ∀ (a0 : check_solver) (a1 : Int) (a2 : Int) (r : (Unit × check_solver)), F a0 a1 a2 = some r → Sp_check_finder_fail_in_check_solver a0 a1 a2 r
def I64 (n : Int) : Prop := -9223372036854775808 ≤ n ∧ n < 9223372036854775808
inductive Expr.ok : Expr → Prop
 | mk {e : Expr} : I64 e.kind → ByteArray.size e.name ≤ 140737488351232 → I64 e.n → I64 e.d → List.length e.args * 72 ≤ 140737488351232 → (∀ y ∈ e.args, Expr.ok y) → I64 e.at_ → Expr.ok e
theorem Expr.ok.kind {e : Expr} (h : e.ok) : I64 e.kind := by cases h; first | assumption | (constructor <;> assumption)
theorem Expr.ok.name {e : Expr} (h : e.ok) : ByteArray.size e.name ≤ 140737488351232 := by cases h; first | assumption | (constructor <;> assumption)
theorem Expr.ok.n {e : Expr} (h : e.ok) : I64 e.n := by cases h; first | assumption | (constructor <;> assumption)
theorem Expr.ok.d {e : Expr} (h : e.ok) : I64 e.d := by cases h; first | assumption | (constructor <;> assumption)
theorem Expr.ok.args {e : Expr} (h : e.ok) : List.length e.args * 72 ≤ 140737488351232 ∧ ∀ y ∈ e.args, Expr.ok y := by cases h; first | assumption | (constructor <;> assumption)
theorem Expr.ok.at_ {e : Expr} (h : e.ok) : I64 e.at_ := by cases h; first | assumption | (constructor <;> assumption)
structure Node.ok (x : Node) : Prop where
 name : ByteArray.size x.name ≤ 140737488351232
 params : List.length x.params * 16 ≤ 140737488351232 ∧ ∀ y ∈ x.params, ByteArray.size y ≤ 140737488351232
 budget : I64 x.budget
 body : Expr.ok x.body
 at_ : I64 x.at_
structure Input.ok (x : Input) : Prop where
 name : ByteArray.size x.name ≤ 140737488351232
 period : I64 x.period
 phase : I64 x.phase
 at_ : I64 x.at_
structure Flow.ok (x : Flow) : Prop where
 name : ByteArray.size x.name ≤ 140737488351232
 e : Expr.ok x.e
 at_ : I64 x.at_
structure Output.ok (x : Output) : Prop where
 name : ByteArray.size x.name ≤ 140737488351232
 flow : ByteArray.size x.flow ≤ 140737488351232
 deadline : I64 x.deadline
 at_ : I64 x.at_
structure Program.ok (x : Program) : Prop where
 nodes : List.length x.nodes * 128 ≤ 140737488351232 ∧ ∀ y ∈ x.nodes, Node.ok y
 inputs : List.length x.inputs * 40 ≤ 140737488351232 ∧ ∀ y ∈ x.inputs, Input.ok y
 flows : List.length x.flows * 96 ≤ 140737488351232 ∧ ∀ y ∈ x.flows, Flow.ok y
 outputs : List.length x.outputs * 48 ≤ 140737488351232 ∧ ∀ y ∈ x.outputs, Output.ok y
theorem maxLen_lt : maxLen < 9223372036854775808 := by unfold maxLen; decide
theorem iter_idx {V W : Type} {f : V → Option (V ⊕ W)} (st : Nat → V → Prop) (n : Nat) (Z : W → Prop) (step : ∀ i v, i < n → st i v → (∃ v', f v = some (.inl v') ∧ st (i + 1) v') ∨ ∃ r, f v = some (.inr r) ∧ Z r)
  (fin : ∀ v, st n v → ∃ r, f v = some (.inr r) ∧ Z r) {v0 : V} (h0 : st 0 v0) : ∃ r, iterO f v0 = some r ∧ Z r := by
 have main : ∀ k i v, i + k = n → st i v → ∃ r, iterO f v = some r ∧ Z r := by
  intro k
  induction k with
  | zero =>
   intro i v hi h
   obtain rfl : i = n := by omega
   obtain ⟨r, h1, h2⟩ := fin v h
   exact ⟨r, iterO_end h1, h2⟩
  | succ k ih =>
   intro i v hi h
   rcases step i v (by omega) h with ⟨v', h1, h2⟩ | ⟨r, h1, h2⟩
   ·rw [iterO_next h1]
    exact ih (i + 1) v' (by omega) h2
   ·exact ⟨r, iterO_end h1, h2⟩
 exact main n 0 v0 (by omega) h0
theorem getI_at {α : Type} {xs : List α} {i : Nat} (h : i < xs.length) : getI xs (i : Int) = some xs[i] := by
 unfold getI
 rw [if_pos (by omega), Int.toNat_natCast, List.getElem?_eq_getElem h]
theorem dlt {i n : Nat} (h : i < n) : decide ((i : Int) < (n : Int)) = true := decide_eq_true (by omega)
theorem dge (n : Nat) : decide ((n : Int) < (n : Int)) = false := decide_eq_false (by omega)
theorem winc {i n : Nat} (h : i < n) (hn : n ≤ maxLen) : IntKind.i64.wrap ((i : Int) + 1) = ((i + 1 : Nat) : Int) := wrap_inc h (Nat.lt_of_le_of_lt hn maxLen_lt)
section
variable {α β : Type} {P : α → β → Prop} {a : α} {b : β}
open Classical in
noncomputable def pick (P : α → β → Prop) (a : α) : Option β := if h : ∃ b, P a b then some (Classical.choose h) else none
theorem pick_spec (h : pick P a = some b) : P a b := by
 unfold pick at h
 split at h
 ·rename_i hx
  obtain rfl := Option.some.inj h
  exact Classical.choose_spec hx
 ·cases h
theorem pick_ex (h : ∃ b, P a b) : ∃ b, pick P a = some b ∧ P a b := ⟨_, by unfold pick; rw [dif_pos h], Classical.choose_spec h⟩
end
theorem bytes_size (s : ByteArray) : s.data.toList.length = s.size := by rw [Array.length_toList]; rfl
theorem getB_at {s : ByteArray} {i : Nat} (h : i < s.size) : ∃ b : UInt8, getB s (i : Int) = some (b.toNat : Int) := by
 unfold getB
 rw [if_pos (by omega), Int.toNat_natCast, List.getElem?_eq_getElem (by rw [bytes_size]; exact h)]
 exact ⟨_, rfl⟩
theorem wrap_i {n : Int} (h1 : -9223372036854775808 ≤ n) (h2 : n < 9223372036854775808) : IntKind.i64.wrap n = n := wrap_id h1 h2
theorem ml {n : Nat} (h : n ≤ 140737488351232) : n ≤ maxLen := by unfold maxLen; omega
theorem mlB {n B : Nat} (h : n * B ≤ 140737488351232) (hB : 0 < B) : n ≤ maxLen := ml (Nat.le_trans (Nat.le_mul_of_pos_right n hB) h)
theorem Expr.ok.nm {e : Expr} (h : e.ok) : e.name.size ≤ maxLen := ml h.name
theorem Expr.ok.len {e : Expr} (h : e.ok) : e.args.length ≤ maxLen := mlB h.args.1 (by omega)
theorem Expr.ok.arg {e : Expr} (h : e.ok) : ∀ x ∈ e.args, x.ok := h.args.2
theorem Expr.induct {p : Expr → Prop} (h : ∀ e, (∀ x ∈ e.args, p x) → p e) (e : Expr) : p e := Expr.ind (fun k s n d xs a ih => h ⟨k, s, n, d, xs, a⟩ ih) e
end Go.Proofs.Ytohmmfimedgccaa.E
end
section
namespace Go.Proofs.Ytohmmfimedgccaa.E
set_option maxRecDepth 100000
set_option maxHeartbeats 4000000
set_option linter.unusedVariables false
set_option linter.unusedSimpArgs false
noncomputable def B_ref03_small (a0 : Int) : Option Bool :=
 some ((decide ((97 : Int) ≤ a0)) && (decide (a0 ≤ (122 : Int))))
theorem W_ref03_small : Sat_ref03_small (B_ref03_small) := by
 intro a0 r h σ K hK
 refine w_fp Try.func86 rfl rfl (by kernel_rfl) ?_
 unfold B_ref03_small at h
 have hP := Pre.refl σ
 have E0 : argE [(.v (.int .u8 a0))] 0 = (.v (.int .u8 a0)) := rfl
 have TT := cj2 Expr.rlen T_5
 refine w_sa (fun e s => e 0 = (.v (.int .u8 a0)) ∧ Pre σ s) ?_ fun e s hI => ?_
 ·refine w_x (cj2 E0 TT) (k := ?_)
  exact cw_n ⟨_, WkE.refl _, (xv (cj2 E0 TT)), hP⟩
 obtain ⟨E0, hP⟩ := hI
 refine w_sa (fun e s => e 2 = (.v (.bool ((decide ((97 : Int) ≤ a0)) && (decide (a0 ≤ (122 : Int)))))) ∧ Pre σ s) ?_ fun e s hI => ?_
 ·cases hb1 : (decide ((97 : Int) ≤ a0))
  ·refine w_x (cj3 E0 hb1 TT) (k := ?_)
   exact cw_n ⟨_, WkE.refl _, (xv (cj3 E0 hb1 TT)), hP⟩
  ·refine w_x (cj3 E0 hb1 TT) (k := ?_)
   exact cw_n ⟨_, WkE.refl _, (xv (cj3 E0 hb1 TT)), hP⟩
 obtain ⟨E2, hP⟩ := hI
 refine w_ret ?_
 obtain rfl := some_inj h
 exact w_fin (fun _ => rfl) (xr (rs := #[.tmp 2]) E2) hP (r' := (.v (.bool ((decide ((97 : Int) ≤ a0)) && (decide (a0 ≤ (122 : Int))))))) (.refl _) (.v _) hK
noncomputable def B_ref03_digit (a0 : Int) : Option Bool :=
 some ((decide ((48 : Int) ≤ a0)) && (decide (a0 ≤ (57 : Int))))
theorem W_ref03_digit : Sat_ref03_digit (B_ref03_digit) := by
 intro a0 r h σ K hK
 refine w_fp Try.func87 rfl rfl (by kernel_rfl) ?_
 unfold B_ref03_digit at h
 have hP := Pre.refl σ
 have E0 : argE [(.v (.int .u8 a0))] 0 = (.v (.int .u8 a0)) := rfl
 have TT := cj2 Expr.rlen T_5
 refine w_sa (fun e s => e 0 = (.v (.int .u8 a0)) ∧ Pre σ s) ?_ fun e s hI => ?_
 ·refine w_x (cj2 E0 TT) (k := ?_)
  exact cw_n ⟨_, WkE.refl _, (xv (cj2 E0 TT)), hP⟩
 obtain ⟨E0, hP⟩ := hI
 refine w_sa (fun e s => e 2 = (.v (.bool ((decide ((48 : Int) ≤ a0)) && (decide (a0 ≤ (57 : Int)))))) ∧ Pre σ s) ?_ fun e s hI => ?_
 ·cases hb1 : (decide ((48 : Int) ≤ a0))
  ·refine w_x (cj3 E0 hb1 TT) (k := ?_)
   exact cw_n ⟨_, WkE.refl _, (xv (cj3 E0 hb1 TT)), hP⟩
  ·refine w_x (cj3 E0 hb1 TT) (k := ?_)
   exact cw_n ⟨_, WkE.refl _, (xv (cj3 E0 hb1 TT)), hP⟩
 obtain ⟨E2, hP⟩ := hI
 refine w_ret ?_
 obtain rfl := some_inj h
 exact w_fin (fun _ => rfl) (xr (rs := #[.tmp 2]) E2) hP (r' := (.v (.bool ((decide ((48 : Int) ≤ a0)) && (decide (a0 ≤ (57 : Int))))))) (.refl _) (.v _) hK
noncomputable def ref03_Word_L0 (y1 : (List ByteArray)) (a0 : ByteArray) : Int → Option (Int ⊕ (Bool ⊕ Unit))
 | vi_5 =>
  if (decide (vi_5 < ((List.length y1 : Nat) : Int))) then
   ((getI y1 vi_5).bind fun y11 =>
   if (decide (y11 = a0)) then
    some (.inl true)
   else
    some (.inr ()) : Option (Bool ⊕ Unit)).bind fun x => match x with
   | .inl r => some (.inr (.inl r))
   | .inr _ =>
    some (.inl (IntKind.i64.wrap (vi_5 + (1 : Int))))
  else
   some (.inr (.inr ()))
noncomputable def B_ref03_Word (f_lex_Words : Option (List ByteArray)) (a0 : ByteArray) : Option Bool :=
 (f_lex_Words).bind fun y1 =>
 (iterO (ref03_Word_L0 y1 a0) (0 : Int) : Option (Bool ⊕ Unit)).bind fun x => match x with
 | .inl r => some r
 | .inr _ =>
  some false
theorem W_ref03_Word (f_lex_Words : Option (List ByteArray)) (S_lex_Words : Sat_lex_Words f_lex_Words) : Sat_ref03_Word (B_ref03_Word f_lex_Words) := by
 intro a0 r h σ K hK
 refine w_fp Try.func88 rfl rfl (by kernel_rfl) ?_
 unfold B_ref03_Word at h
 have hP := Pre.refl σ
 have E0 : argE [(.v (.string a0))] 0 = (.v (.string a0)) := rfl
 have TT := cj4 Expr.rlen T_3 T_9 T_97
 refine w_sa (fun e s => e 0 = (.v (.string a0)) ∧ Pre σ s) ?_ fun e s hI => ?_
 ·refine w_x (cj2 E0 TT) (k := ?_)
  exact cw_n ⟨_, WkE.refl _, (xv (cj2 E0 TT)), hP⟩
 obtain ⟨E0, hP⟩ := hI
 obtain ⟨y1, h2, h⟩ := bnd_some h
 refine w_sa (fun e s => e 0 = (.v (.string a0)) ∧ e 3 = (.sl (List.map C_s y1)) ∧ Pre σ s) ?_ fun e s hI => ?_
 ·refine w_x (cj2 E0 TT) (k := ?_)
  refine EC.wka .nil (S_lex_Words _ h2 _ _  ?_)
  refine w_y (cj2 E0 TT) (k := ?_)
  exact cw_n ⟨_, WkE.refl _, (xv (cj2 E0 TT)), (xv (cj2 E0 TT)), hP⟩
 obtain ⟨E0, E3, hP⟩ := hI
 refine w_assoc ?_
 refine w_sa (fun e s => e 0 = (.v (.string a0)) ∧ e 3 = (.sl (List.map C_s y1)) ∧ e 4 = (.v (.int .i64 (0 : Int))) ∧ Pre σ s) ?_ fun e s hI => ?_
 ·refine w_x (cj3 E0 E3 TT) (k := ?_)
  exact cw_n ⟨_, WkE.refl _, (xv (cj3 E0 E3 TT)), (xv (cj3 E0 E3 TT)), (xv (cj3 E0 E3 TT)), hP⟩
 obtain ⟨E0, E3, E4, hP⟩ := hI
 obtain ⟨x3, h4, h⟩ := bnd_some h
 refine w_sa (fun e s => .inr () = x3 ∧ Pre σ s) ?_ fun e s hI => ?_
 ·refine w_block ?_
  refine w_iter h4 (fun v e s => ∃ vi_5 : Int, vi_5 = v ∧ e 0 = (.v (.string a0)) ∧ e 3 = (.sl (List.map C_s y1)) ∧ e 4 = (.v (.int .i64 vi_5)) ∧ Pre σ s) ⟨_, WkE.refl _, _, rfl, (xv (cj3 E0 E3 E4)), (xv (cj3 E0 E3 E4)), (xv (cj3 E0 E3 E4)), hP⟩ fun v x6 e s hf7 hI => ?_
  obtain ⟨vi_5, rfl, E0, E3, E4, hP⟩ := hI
  unfold ref03_Word_L0 at hf7
  try dsimp only at hf7
  refine w_assoc ?_
  refine w_sa (fun e s => e 0 = (.v (.string a0)) ∧ e 3 = (.sl (List.map C_s y1)) ∧ e 4 = (.v (.int .i64 vi_5)) ∧ e 9 = (.v (.bool (decide (vi_5 < ((List.length y1 : Nat) : Int))))) ∧ Pre σ s) ?_ fun e s hI => ?_
  ·refine w_x (cj4 E0 E3 E4 TT) (k := ?_)
   have q1 := cj4 E0 E3 E4 TT
   exact cw_n ⟨_, WkE.refl _, (xv q1), (xv q1), (xv q1), (xv q1), hP⟩
  obtain ⟨E0, E3, E4, E9, hP⟩ := hI
  refine w_seq ?_
  rcases ite_some hf7 with ⟨hb8, hf7⟩ | ⟨hb8, hf7⟩
  ·refine xt (cj5 E0 E3 E4 E9 hb8) ?_
   refine w_skip ?_
   refine w_sq ?_
   obtain ⟨x9, h10, hf7⟩ := bnd_some hf7
   refine w_sa (fun e s => .inr () = x9 ∧ e 0 = (.v (.string a0)) ∧ e 3 = (.sl (List.map C_s y1)) ∧ e 4 = (.v (.int .i64 vi_5)) ∧ Pre σ s) ?_ fun e s hI => ?_
   ·refine w_block ?_
    obtain ⟨y11, h12, h10⟩ := bnd_some h10
    refine w_sa (fun e s => e 0 = (.v (.string a0)) ∧ e 3 = (.sl (List.map C_s y1)) ∧ e 4 = (.v (.int .i64 vi_5)) ∧ e 17 = (.v (.bool (decide (y11 = a0)))) ∧ Pre σ s) ?_ fun e s hI => ?_
    ·have R13 : (List.map C_s y1)[(vi_5).toNat]? = some [(.v (.string y11))] := map_get (getI_some h12).2
     refine w_x (cj7 E0 E3 E4 E9 R13 (getI_some h12).1 TT) (k := ?_)
     have q2 := cj7 E0 E3 E4 E9 R13 (getI_some h12).1 TT
     exact cw_n ⟨_, WkE.refl _, (xv q2), (xv q2), (xv q2), (xv q2), hP⟩
    obtain ⟨E0, E3, E4, E17, hP⟩ := hI
    rcases ite_some h10 with ⟨hb14, h10⟩ | ⟨hb14, h10⟩
    ·refine xt (cj5 E0 E3 E4 E17 hb14) ?_
     refine w_sa (fun e s => e 2 = (.v (.bool true)) ∧ Pre σ s) ?_ fun e s hI => ?_
     ·refine w_x (cj5 E0 E3 E4 E17 TT) (k := ?_)
      exact cw_n ⟨_, WkE.refl _, (xv (cj5 E0 E3 E4 E17 TT)), hP⟩
     obtain ⟨E2, hP⟩ := hI
     refine w_ret ?_
     refine w_bkr ?_
     obtain rfl := some_inj h10
     refine cw_r ?_
     try dsimp only at hf7
     obtain rfl := some_inj hf7
     refine iq_r rfl fun hr15 => ?_
     obtain rfl := hr15
     refine w_bkr ?_
     refine cw_r ?_
     try dsimp only at h
     obtain rfl := some_inj h
     exact w_fin (fun _ => rfl) (xr (rs := #[.tmp 2]) E2) hP (r' := (.v (.bool true))) (.refl _) (.v _) hK
    ·refine xf (cj5 E0 E3 E4 E17 hb14) ?_
     refine w_skip ?_
     refine w_bk ?_
     obtain rfl := some_inj h10
     have q3 := cj4 E0 E3 E4 E17
     exact cw_n ⟨_, WkE.refl _, rfl, (xv q3), (xv q3), (xv q3), hP⟩
   obtain ⟨rfl, E0, E3, E4, hP⟩ := hI
   try dsimp only at hf7
   refine w_x (cj4 E0 E3 E4 TT) (k := ?_)
   obtain rfl := some_inj hf7
   have q4 := cj4 E0 E3 E4 TT
   exact iq_n rfl ⟨_, WkE.refl _, _, rfl, (xv q4), (xv q4), (xv q4), hP⟩
  ·refine xf (cj5 E0 E3 E4 E9 hb8) ?_
   refine w_exit ?_
   refine w_sqx ?_
   obtain rfl := some_inj hf7
   refine iq_x rfl fun hr16 => ?_
   obtain rfl := hr16
   refine w_bkx ?_
   exact cw_n ⟨_, WkE.refl _, rfl, hP⟩
 obtain ⟨rfl, hP⟩ := hI
 try dsimp only at h
 refine w_sa (fun e s => e 2 = (.v (.bool false)) ∧ Pre σ s) ?_ fun e s hI => ?_
 ·refine w_x Expr.rlen (k := ?_)
  exact cw_n ⟨_, WkE.refl _, (xv Expr.rlen), hP⟩
 obtain ⟨E2, hP⟩ := hI
 refine w_ret ?_
 obtain rfl := some_inj h
 exact w_fin (fun _ => rfl) (xr (rs := #[.tmp 2]) E2) hP (r' := (.v (.bool false))) (.refl _) (.v _) hK
def lex_Words_K0 : (List ByteArray) := [(⟨#[110, 111, 100, 101]⟩ : ByteArray), (⟨#[98, 117, 100, 103, 101, 116]⟩ : ByteArray), (⟨#[105, 110, 112, 117, 116]⟩ : ByteArray), (⟨#[112, 101, 114, 105, 111, 100]⟩ : ByteArray), (⟨#[112, 104, 97, 115, 101]⟩ : ByteArray), (⟨#[102, 108, 111, 119]⟩ : ByteArray), (⟨#[102, 98, 121]⟩ : ByteArray), (⟨#[116, 97, 105, 108]⟩ : ByteArray), (⟨#[111, 117, 116, 112, 117, 116]⟩ : ByteArray), (⟨#[100, 101, 97, 100, 108, 105, 110, 101]⟩ : ByteArray)]
noncomputable def B_lex_Words : Option (List ByteArray) :=
 some lex_Words_K0
theorem W_lex_Words : Sat_lex_Words (B_lex_Words) := by
 intro r h σ K hK
 refine w_fp Try.func122 rfl rfl (by kernel_rfl) ?_
 unfold B_lex_Words at h
 have hP := Pre.refl σ
 have TT := cj3 Expr.rlen T_9 T_97
 refine w_sa (fun e s => Pre σ s) ?_ fun e s hI => ?_
 ·refine w_x Expr.rlen (k := ?_)
  exact cw_n ⟨_, WkE.refl _, hP⟩
 have hP := hI
 refine w_sa (fun e s => e 0 = (.sl (List.map C_s lex_Words_K0)) ∧ Pre σ s) ?_ fun e s hI => ?_
 ·refine w_x TT (k := ?_)
  exact cw_n ⟨_, WkE.upd (WkE.refl _) (t := 0) (p := (.sl [[(.v (.string (⟨#[110, 111, 100, 101]⟩ : ByteArray)))], [(.v (.string (⟨#[98, 117, 100, 103, 101, 116]⟩ : ByteArray)))], [(.v (.string (⟨#[105, 110, 112, 117, 116]⟩ : ByteArray)))], [(.v (.string (⟨#[112, 101, 114, 105, 111, 100]⟩ : ByteArray)))], [(.v (.string (⟨#[112, 104, 97, 115, 101]⟩ : ByteArray)))], [(.v (.string (⟨#[102, 108, 111, 119]⟩ : ByteArray)))], [(.v (.string (⟨#[102, 98, 121]⟩ : ByteArray)))], [(.v (.string (⟨#[116, 97, 105, 108]⟩ : ByteArray)))], [(.v (.string (⟨#[111, 117, 116, 112, 117, 116]⟩ : ByteArray)))], [(.v (.string (⟨#[100, 101, 97, 100, 108, 105, 110, 101]⟩ : ByteArray)))]])) (q := (.sl (List.map C_s lex_Words_K0))) (xv TT) (Wk.of_eq rfl), (xv TT), hP⟩
 obtain ⟨E0, hP⟩ := hI
 refine w_ret ?_
 obtain rfl := some_inj h
 exact w_fin (fun _ => rfl) (xr (rs := #[.tmp 0]) E0) hP (r' := (.sl (List.map C_s lex_Words_K0))) (.refl _) (Cn.rows (fun _ => CnL.cons (.v _) CnL.nil) _) hK
noncomputable def ref03_Right_L0 (a0 : ByteArray) (f_ref03_digit : Int → Option Bool) (f_ref03_small : Int → Option Bool) : Int → Option (Int ⊕ (Bool ⊕ Unit))
 | vi_3 =>
  if (decide (vi_3 < ((ByteArray.size a0 : Nat) : Int))) then
   ((getB a0 vi_3).bind fun y9 =>
   (f_ref03_small y9).bind fun y11 =>
   (if (!y11) then
    (if (decide (vi_3 = (0 : Int))) then
     some false
    else
     (f_ref03_digit y9).bind fun y13 =>
     some ((!y13) && (!decide (y9 = (95 : Int))))).bind fun w15 =>
    some ((decide (vi_3 = (0 : Int))) || w15)
   else
    some false).bind fun w17 =>
   if ((!y11) && w17) then
    some (.inl false)
   else
    some (.inr ()) : Option (Bool ⊕ Unit)).bind fun x => match x with
   | .inl r => some (.inr (.inl r))
   | .inr _ =>
    some (.inl (IntKind.i64.wrap (vi_3 + (1 : Int))))
  else
   some (.inr (.inr ()))
noncomputable def B_ref03_Right (f_ref03_small : Int → Option Bool) (f_ref03_digit : Int → Option Bool) (f_ref03_Word : ByteArray → Option Bool) (a0 : ByteArray) : Option Bool :=
 (iterO (ref03_Right_L0 a0 f_ref03_digit f_ref03_small) (0 : Int) : Option (Bool ⊕ Unit)).bind fun x => match x with
 | .inl r => some r
 | .inr _ =>
  (if ((!decide (a0 = (⟨#[]⟩ : ByteArray))) && (decide (((ByteArray.size a0 : Nat) : Int) ≤ (100 : Int)))) then
   (f_ref03_Word a0).bind fun y26 =>
   some (!y26)
  else
   some false).bind fun w28 =>
  some (((!decide (a0 = (⟨#[]⟩ : ByteArray))) && (decide (((ByteArray.size a0 : Nat) : Int) ≤ (100 : Int)))) && w28)
theorem W_ref03_Right (f_ref03_small : Int → Option Bool) (f_ref03_digit : Int → Option Bool) (f_ref03_Word : ByteArray → Option Bool) (S_ref03_small : Sat_ref03_small f_ref03_small) (S_ref03_digit : Sat_ref03_digit f_ref03_digit) (S_ref03_Word : Sat_ref03_Word f_ref03_Word) : Sat_ref03_Right (B_ref03_Right f_ref03_small f_ref03_digit f_ref03_Word) := by
 intro a0 r h σ K hK
 refine w_fp Try.func38 rfl rfl (by kernel_rfl) ?_
 unfold B_ref03_Right at h
 have hP := Pre.refl σ
 have E0 : argE [(.v (.string a0))] 0 = (.v (.string a0)) := rfl
 have TT := cj4 Expr.rlen T_3 T_5 T_9
 refine w_sa (fun e s => e 0 = (.v (.string a0)) ∧ Pre σ s) ?_ fun e s hI => ?_
 ·refine w_x (cj2 E0 TT) (k := ?_)
  exact cw_n ⟨_, WkE.refl _, (xv (cj2 E0 TT)), hP⟩
 obtain ⟨E0, hP⟩ := hI
 refine w_assoc ?_
 refine w_sa (fun e s => e 0 = (.v (.string a0)) ∧ e 3 = (.v (.int .i64 (0 : Int))) ∧ Pre σ s) ?_ fun e s hI => ?_
 ·refine w_x (cj2 E0 TT) (k := ?_)
  exact cw_n ⟨_, WkE.refl _, (xv (cj2 E0 TT)), (xv (cj2 E0 TT)), hP⟩
 obtain ⟨E0, E3, hP⟩ := hI
 obtain ⟨x1, h2, h⟩ := bnd_some h
 refine w_sa (fun e s => .inr () = x1 ∧ e 0 = (.v (.string a0)) ∧ Pre σ s) ?_ fun e s hI => ?_
 ·refine w_block ?_
  refine w_iter h2 (fun v e s => ∃ vi_3 : Int, vi_3 = v ∧ e 0 = (.v (.string a0)) ∧ e 3 = (.v (.int .i64 vi_3)) ∧ Pre σ s) ⟨_, WkE.refl _, _, rfl, (xv (cj2 E0 E3)), (xv (cj2 E0 E3)), hP⟩ fun v x4 e s hf5 hI => ?_
  obtain ⟨vi_3, rfl, E0, E3, hP⟩ := hI
  unfold ref03_Right_L0 at hf5
  try dsimp only at hf5
  refine w_assoc ?_
  refine w_sa (fun e s => e 0 = (.v (.string a0)) ∧ e 3 = (.v (.int .i64 vi_3)) ∧ e 7 = (.v (.bool (decide (vi_3 < ((ByteArray.size a0 : Nat) : Int))))) ∧ Pre σ s) ?_ fun e s hI => ?_
  ·refine w_x (cj3 E0 E3 TT) (k := ?_)
   exact cw_n ⟨_, WkE.refl _, (xv (cj3 E0 E3 TT)), (xv (cj3 E0 E3 TT)), (xv (cj3 E0 E3 TT)), hP⟩
  obtain ⟨E0, E3, E7, hP⟩ := hI
  refine w_seq ?_
  rcases ite_some hf5 with ⟨hb6, hf5⟩ | ⟨hb6, hf5⟩
  ·refine xt (cj4 E0 E3 E7 hb6) ?_
   refine w_skip ?_
   refine w_sq ?_
   obtain ⟨x7, h8, hf5⟩ := bnd_some hf5
   refine w_sa (fun e s => .inr () = x7 ∧ e 0 = (.v (.string a0)) ∧ e 3 = (.v (.int .i64 vi_3)) ∧ Pre σ s) ?_ fun e s hI => ?_
   ·refine w_block ?_
    obtain ⟨y9, h10, h8⟩ := bnd_some h8
    obtain ⟨y11, h12, h8⟩ := bnd_some h8
    obtain ⟨w17, h18, h8⟩ := bnd_some h8
    refine w_sa (fun e s => e 0 = (.v (.string a0)) ∧ e 3 = (.v (.int .i64 vi_3)) ∧ e 31 = (.v (.bool ((!y11) && w17))) ∧ Pre σ s) ?_ fun e s hI => ?_
    ·obtain ⟨k19a, k19b, k19c, k19d⟩ := getB_some h10
     cases hb20 : (!y11)
     ·replace h18 := ite_f (by simp only [hb20, Bool.or_true, Bool.true_or, Bool.or_false, Bool.false_or, Bool.and_true, Bool.true_and, Bool.and_false, Bool.false_and, Bool.not_true, Bool.not_false, cond_true, cond_false]) h18
      obtain rfl := some_inj h18
      refine w_x (cj8 E0 E3 E7 k19a k19c k19d hb20 TT) (k := ?_)
      refine EC.wka (.cons (.refl _) .nil) (S_ref03_small _ _ h12 _ _  ?_)
      refine w_y (cj8 E0 E3 E7 k19a k19c k19d hb20 TT) (k := ?_)
      have q1 := cj8 E0 E3 E7 k19a k19c k19d hb20 TT
      exact cw_n ⟨_, WkE.refl _, (xv q1), (xv q1), (xv q1), hP⟩
     ·replace h18 := ite_t (by simp only [hb20, Bool.or_true, Bool.true_or, Bool.or_false, Bool.false_or, Bool.and_true, Bool.true_and, Bool.and_false, Bool.false_and, Bool.not_true, Bool.not_false, cond_true, cond_false]) h18
      obtain ⟨w15, h16, h18⟩ := bnd_some h18
      obtain rfl := some_inj h18
      cases hb21 : (decide (vi_3 = (0 : Int)))
      ·replace h16 := ite_f (by simp only [hb20, hb21, Bool.or_true, Bool.true_or, Bool.or_false, Bool.false_or, Bool.and_true, Bool.true_and, Bool.and_false, Bool.false_and, Bool.not_true, Bool.not_false, cond_true, cond_false]) h16
       obtain ⟨y13, h14, h16⟩ := bnd_some h16
       obtain rfl := some_inj h16
       cases hb22 : (!y13)
       ·refine w_x (cj10 E0 E3 E7 k19a k19c k19d hb20 hb21 hb22 TT) (k := ?_)
        refine EC.wka (.cons (.refl _) .nil) (S_ref03_small _ _ h12 _ _  ?_)
        refine w_y (cj10 E0 E3 E7 k19a k19c k19d hb20 hb21 hb22 TT) (k := ?_)
        refine EC.wka (.cons (.refl _) .nil) (S_ref03_digit _ _ h14 _ _  ?_)
        refine w_y (cj10 E0 E3 E7 k19a k19c k19d hb20 hb21 hb22 TT) (k := ?_)
        have q2 := cj10 E0 E3 E7 k19a k19c k19d hb20 hb21 hb22 TT
        exact cw_n ⟨_, WkE.refl _, (xv q2), (xv q2), (xv q2), hP⟩
       ·refine w_x (cj10 E0 E3 E7 k19a k19c k19d hb20 hb21 hb22 TT) (k := ?_)
        refine EC.wka (.cons (.refl _) .nil) (S_ref03_small _ _ h12 _ _  ?_)
        refine w_y (cj10 E0 E3 E7 k19a k19c k19d hb20 hb21 hb22 TT) (k := ?_)
        refine EC.wka (.cons (.refl _) .nil) (S_ref03_digit _ _ h14 _ _  ?_)
        refine w_y (cj10 E0 E3 E7 k19a k19c k19d hb20 hb21 hb22 TT) (k := ?_)
        have q3 := cj10 E0 E3 E7 k19a k19c k19d hb20 hb21 hb22 TT
        exact cw_n ⟨_, WkE.refl _, (xv q3), (xv q3), (xv q3), hP⟩
      ·replace h16 := ite_t (by simp only [hb20, hb21, Bool.or_true, Bool.true_or, Bool.or_false, Bool.false_or, Bool.and_true, Bool.true_and, Bool.and_false, Bool.false_and, Bool.not_true, Bool.not_false, cond_true, cond_false]) h16
       obtain rfl := some_inj h16
       refine w_x (cj9 E0 E3 E7 k19a k19c k19d hb20 hb21 TT) (k := ?_)
       refine EC.wka (.cons (.refl _) .nil) (S_ref03_small _ _ h12 _ _  ?_)
       refine w_y (cj9 E0 E3 E7 k19a k19c k19d hb20 hb21 TT) (k := ?_)
       have q4 := cj9 E0 E3 E7 k19a k19c k19d hb20 hb21 TT
       exact cw_n ⟨_, WkE.refl _, (xv q4), (xv q4), (xv q4), hP⟩
    obtain ⟨E0, E3, E31, hP⟩ := hI
    rcases ite_some h8 with ⟨hb23, h8⟩ | ⟨hb23, h8⟩
    ·refine xt (cj4 E0 E3 E31 hb23) ?_
     refine w_sa (fun e s => e 2 = (.v (.bool false)) ∧ Pre σ s) ?_ fun e s hI => ?_
     ·refine w_x (cj4 E0 E3 E31 TT) (k := ?_)
      exact cw_n ⟨_, WkE.refl _, (xv (cj4 E0 E3 E31 TT)), hP⟩
     obtain ⟨E2, hP⟩ := hI
     refine w_ret ?_
     refine w_bkr ?_
     obtain rfl := some_inj h8
     refine cw_r ?_
     try dsimp only at hf5
     obtain rfl := some_inj hf5
     refine iq_r rfl fun hr24 => ?_
     obtain rfl := hr24
     refine w_bkr ?_
     refine cw_r ?_
     try dsimp only at h
     obtain rfl := some_inj h
     exact w_fin (fun _ => rfl) (xr (rs := #[.tmp 2]) E2) hP (r' := (.v (.bool false))) (.refl _) (.v _) hK
    ·refine xf (cj4 E0 E3 E31 hb23) ?_
     refine w_skip ?_
     refine w_bk ?_
     obtain rfl := some_inj h8
     exact cw_n ⟨_, WkE.refl _, rfl, (xv (cj3 E0 E3 E31)), (xv (cj3 E0 E3 E31)), hP⟩
   obtain ⟨rfl, E0, E3, hP⟩ := hI
   try dsimp only at hf5
   refine w_x (cj3 E0 E3 TT) (k := ?_)
   obtain rfl := some_inj hf5
   exact iq_n rfl ⟨_, WkE.refl _, _, rfl, (xv (cj3 E0 E3 TT)), (xv (cj3 E0 E3 TT)), hP⟩
  ·refine xf (cj4 E0 E3 E7 hb6) ?_
   refine w_exit ?_
   refine w_sqx ?_
   obtain rfl := some_inj hf5
   refine iq_x rfl fun hr25 => ?_
   obtain rfl := hr25
   refine w_bkx ?_
   exact cw_n ⟨_, WkE.refl _, rfl, (xv (cj3 E0 E3 E7)), hP⟩
 obtain ⟨rfl, E0, hP⟩ := hI
 try dsimp only at h
 obtain ⟨w28, h29, h⟩ := bnd_some h
 refine w_sa (fun e s => e 2 = (.v (.bool (((!decide (a0 = (⟨#[]⟩ : ByteArray))) && (decide (((ByteArray.size a0 : Nat) : Int) ≤ (100 : Int)))) && w28))) ∧ Pre σ s) ?_ fun e s hI => ?_
 ·cases hb30 : (!decide (a0 = (⟨#[]⟩ : ByteArray)))
  ·replace h29 := ite_f (by simp only [hb30, Bool.or_true, Bool.true_or, Bool.or_false, Bool.false_or, Bool.and_true, Bool.true_and, Bool.and_false, Bool.false_and, Bool.not_true, Bool.not_false, cond_true, cond_false]) h29
   obtain rfl := some_inj h29
   refine w_x (cj3 E0 hb30 TT) (k := ?_)
   exact cw_n ⟨_, WkE.refl _, (xv (cj3 E0 hb30 TT)), hP⟩
  ·cases hb31 : (decide (((ByteArray.size a0 : Nat) : Int) ≤ (100 : Int)))
   ·replace h29 := ite_f (by simp only [hb30, hb31, Bool.or_true, Bool.true_or, Bool.or_false, Bool.false_or, Bool.and_true, Bool.true_and, Bool.and_false, Bool.false_and, Bool.not_true, Bool.not_false, cond_true, cond_false]) h29
    obtain rfl := some_inj h29
    refine w_x (cj4 E0 hb30 hb31 TT) (k := ?_)
    exact cw_n ⟨_, WkE.refl _, (xv (cj4 E0 hb30 hb31 TT)), hP⟩
   ·replace h29 := ite_t (by simp only [hb30, hb31, Bool.or_true, Bool.true_or, Bool.or_false, Bool.false_or, Bool.and_true, Bool.true_and, Bool.and_false, Bool.false_and, Bool.not_true, Bool.not_false, cond_true, cond_false]) h29
    obtain ⟨y26, h27, h29⟩ := bnd_some h29
    obtain rfl := some_inj h29
    refine w_x (cj4 E0 hb30 hb31 TT) (k := ?_)
    refine EC.wka (.cons (.refl _) .nil) (S_ref03_Word _ _ h27 _ _  ?_)
    refine w_y (cj4 E0 hb30 hb31 TT) (k := ?_)
    exact cw_n ⟨_, WkE.refl _, (xv (cj4 E0 hb30 hb31 TT)), hP⟩
 obtain ⟨E2, hP⟩ := hI
 refine w_ret ?_
 obtain rfl := some_inj h
 exact w_fin (fun _ => rfl) (xr (rs := #[.tmp 2]) E2) hP (r' := (.v (.bool (((!decide (a0 = (⟨#[]⟩ : ByteArray))) && (decide (((ByteArray.size a0 : Nat) : Int) ≤ (100 : Int)))) && w28)))) (.refl _) (.v _) hK
noncomputable def B_ref04_number (a0 : Int) (a1 : Int) (a2 : Int) : Option Bool :=
 some ((decide (a1 ≤ a0)) && (decide (a0 ≤ a2)))
theorem W_ref04_number : Sat_ref04_number (B_ref04_number) := by
 intro a0 a1 a2 r h σ K hK
 refine w_fp Try.func39 rfl rfl (by kernel_rfl) ?_
 unfold B_ref04_number at h
 have hP := Pre.refl σ
 have E0 : argE [(.v (.int .i64 a0)), (.v (.int .i64 a1)), (.v (.int .i64 a2))] 0 = (.v (.int .i64 a0)) := rfl
 have E1 : argE [(.v (.int .i64 a0)), (.v (.int .i64 a1)), (.v (.int .i64 a2))] 1 = (.v (.int .i64 a1)) := rfl
 have E2 : argE [(.v (.int .i64 a0)), (.v (.int .i64 a1)), (.v (.int .i64 a2))] 2 = (.v (.int .i64 a2)) := rfl
 have TT := cj2 Expr.rlen T_2
 refine w_sa (fun e s => e 0 = (.v (.int .i64 a0)) ∧ e 1 = (.v (.int .i64 a1)) ∧ e 2 = (.v (.int .i64 a2)) ∧ Pre σ s) ?_ fun e s hI => ?_
 ·refine w_x (cj4 E0 E1 E2 TT) (k := ?_)
  have q1 := cj4 E0 E1 E2 TT
  exact cw_n ⟨_, WkE.refl _, (xv q1), (xv q1), (xv q1), hP⟩
 obtain ⟨E0, E1, E2, hP⟩ := hI
 refine w_sa (fun e s => e 6 = (.v (.bool ((decide (a1 ≤ a0)) && (decide (a0 ≤ a2))))) ∧ Pre σ s) ?_ fun e s hI => ?_
 ·cases hb1 : (decide (a1 ≤ a0))
  ·refine w_x (cj5 E0 E1 E2 hb1 TT) (k := ?_)
   exact cw_n ⟨_, WkE.refl _, (xv (cj5 E0 E1 E2 hb1 TT)), hP⟩
  ·refine w_x (cj5 E0 E1 E2 hb1 TT) (k := ?_)
   exact cw_n ⟨_, WkE.refl _, (xv (cj5 E0 E1 E2 hb1 TT)), hP⟩
 obtain ⟨E6, hP⟩ := hI
 refine w_ret ?_
 obtain rfl := some_inj h
 exact w_fin (fun _ => rfl) (xr (rs := #[.tmp 6]) E6) hP (r' := (.v (.bool ((decide (a1 ≤ a0)) && (decide (a0 ≤ a2)))))) (.refl _) (.v _) hK
noncomputable def ref04_Size_L0 (a0 : Expr) (a1 : Int) (f_ref04_Size : Expr → Int → Option Int) : (Int × Int) → Option ((Int × Int) ⊕ Int)
 | (vn_4, vi_5) =>
  if ((decide (vi_5 < ((List.length a0.args : Nat) : Int))) && (decide (vn_4 ≤ a1))) then
   ((getI a0.args vi_5).bind fun y13 =>
   (f_ref04_Size y13 (IntKind.i64.wrap (a1 - vn_4))).bind fun y15 =>
   some (IntKind.i64.wrap (vn_4 + y15)) : Option Int).bind fun vn_12 =>
   some (.inl (vn_12, (IntKind.i64.wrap (vi_5 + (1 : Int)))))
  else
   some (.inr vn_4)
noncomputable def B_ref04_Size (f_ref04_Size : Expr → Int → Option Int) (a0 : Expr) (a1 : Int) : Option Int :=
 (iterO (ref04_Size_L0 a0 a1 f_ref04_Size) ((1 : Int), (0 : Int)) : Option Int).bind fun vn_3 =>
 some vn_3
abbrev ref04_Size_A0 (a0 : Expr) : List PV := [(.v (.int .i64 a0.kind)), (.v (.string a0.name)), (.v (.int .i64 a0.n)), (.v (.int .i64 a0.d)), (.sl (Expr.rows a0.args)), (.v (.int .i64 a0.at_))]
theorem W_ref04_Size (f_ref04_Size : Expr → Int → Option Int) (S_ref04_Size : Sat_ref04_Size f_ref04_Size) : Sat_ref04_Size (B_ref04_Size f_ref04_Size) := by
 intro a0 a1 r h σ K hK
 refine w_fp Try.func40 rfl rfl (by kernel_rfl) ?_
 unfold B_ref04_Size at h
 have hP := Pre.refl σ
 have E0 : argE [(.ag (ref04_Size_A0 a0)), (.v (.int .i64 a1))] 0 = (.ag (ref04_Size_A0 a0)) := rfl
 have E1 : argE [(.ag (ref04_Size_A0 a0)), (.v (.int .i64 a1))] 1 = (.v (.int .i64 a1)) := rfl
 have TT := cj6 Expr.rlen T_2 T_3 T_37 T_39 T_9
 refine w_sa (fun e s => ∃ i2 : Nat, Bx σ s i2 39 (ref04_Size_A0 a0) ∧ e 1 = (.v (.int .i64 a1)) ∧ e 2 = (.pt i2 0) ∧ Pre σ s) ?_ fun e s hI => ?_
 ·refine w_x (cj3 E0 E1 TT) (k := ?_)
  exact cw_n ⟨_, WkE.refl _, σ.length, (Bx.new hP 39 (ref04_Size_A0 a0)), (xv (cj3 E0 E1 TT)), (xv (cj3 E0 E1 TT)), (hP.app _)⟩
 obtain ⟨i2, X2, E1, E2, hP⟩ := hI
 refine w_sa (fun e s => Bx σ s i2 39 (ref04_Size_A0 a0) ∧ e 1 = (.v (.int .i64 a1)) ∧ e 2 = (.pt i2 0) ∧ e 5 = (.v (.int .i64 (1 : Int))) ∧ Pre σ s) ?_ fun e s hI => ?_
 ·refine w_x (cj4 E1 E2 X2.get TT) (k := ?_)
  have q1 := cj4 E1 E2 X2.get TT
  exact cw_n ⟨_, WkE.refl _, X2, (xv q1), (xv q1), (xv q1), hP⟩
 obtain ⟨X2, E1, E2, E5, hP⟩ := hI
 refine w_assoc ?_
 refine w_sa (fun e s => Bx σ s i2 39 (ref04_Size_A0 a0) ∧ e 1 = (.v (.int .i64 a1)) ∧ e 2 = (.pt i2 0) ∧ e 5 = (.v (.int .i64 (1 : Int))) ∧ e 6 = (.v (.int .i64 (0 : Int))) ∧ Pre σ s) ?_ fun e s hI => ?_
 ·refine w_x (cj5 E1 E2 E5 X2.get TT) (k := ?_)
  have q2 := cj5 E1 E2 E5 X2.get TT
  exact cw_n ⟨_, WkE.refl _, X2, (xv q2), (xv q2), (xv q2), (xv q2), hP⟩
 obtain ⟨X2, E1, E2, E5, E6, hP⟩ := hI
 obtain ⟨x1, h2, h⟩ := bnd_some h
 refine w_sa (fun e s => ∃ vn_3 : Int, vn_3 = x1 ∧ e 5 = (.v (.int .i64 vn_3)) ∧ Pre σ s) ?_ fun e s hI => ?_
 ·refine w_block ?_
  have q3 := cj4 E1 E2 E5 E6
  refine w_iter h2 (fun v e s => ∃ vn_4 : Int, ∃ vi_5 : Int, (vn_4, vi_5) = v ∧ Bx σ s i2 39 (ref04_Size_A0 a0) ∧ e 1 = (.v (.int .i64 a1)) ∧ e 2 = (.pt i2 0) ∧ e 5 = (.v (.int .i64 vn_4)) ∧ e 6 = (.v (.int .i64 vi_5)) ∧ Pre σ s) ⟨_, WkE.refl _, _, _, rfl, X2, (xv q3), (xv q3), (xv q3), (xv q3), hP⟩ fun v x6 e s hf7 hI => ?_
  obtain ⟨vn_4, vi_5, rfl, X2, E1, E2, E5, E6, hP⟩ := hI
  unfold ref04_Size_L0 at hf7
  try dsimp only at hf7
  refine w_assoc ?_
  refine w_sa (fun e s => Bx σ s i2 39 (ref04_Size_A0 a0) ∧ e 1 = (.v (.int .i64 a1)) ∧ e 2 = (.pt i2 0) ∧ e 5 = (.v (.int .i64 vn_4)) ∧ e 6 = (.v (.int .i64 vi_5)) ∧ e 16 = (.v (.bool ((decide (vi_5 < ((List.length a0.args : Nat) : Int))) && (decide (vn_4 ≤ a1))))) ∧ Pre σ s) ?_ fun e s hI => ?_
  ·cases hb8 : (decide (vi_5 < ((List.length a0.args : Nat) : Int)))
   ·refine w_x (cj7 E1 E2 E5 E6 X2.get hb8 TT) (k := ?_)
    have q4 := cj7 E1 E2 E5 E6 X2.get hb8 TT
    exact cw_n ⟨_, WkE.refl _, X2, (xv q4), (xv q4), (xv q4), (xv q4), (xv q4), hP⟩
   ·refine w_x (cj7 E1 E2 E5 E6 X2.get hb8 TT) (k := ?_)
    have q5 := cj7 E1 E2 E5 E6 X2.get hb8 TT
    exact cw_n ⟨_, WkE.refl _, X2, (xv q5), (xv q5), (xv q5), (xv q5), (xv q5), hP⟩
  obtain ⟨X2, E1, E2, E5, E6, E16, hP⟩ := hI
  refine w_seq ?_
  rcases ite_some hf7 with ⟨hb9, hf7⟩ | ⟨hb9, hf7⟩
  ·refine xt (cj6 E1 E2 E5 E6 E16 hb9) ?_
   refine w_skip ?_
   refine w_sq ?_
   obtain ⟨x10, h11, hf7⟩ := bnd_some hf7
   refine w_sa (fun e s => ∃ vn_12 : Int, vn_12 = x10 ∧ Bx σ s i2 39 (ref04_Size_A0 a0) ∧ e 1 = (.v (.int .i64 a1)) ∧ e 2 = (.pt i2 0) ∧ e 5 = (.v (.int .i64 vn_12)) ∧ e 6 = (.v (.int .i64 vi_5)) ∧ Pre σ s) ?_ fun e s hI => ?_
   ·refine w_block ?_
    obtain ⟨y13, h14, h11⟩ := bnd_some h11
    obtain ⟨y15, h16, h11⟩ := bnd_some h11
    have R17 : (Expr.rows a0.args)[(vi_5).toNat]? = some [(.v (.int .i64 y13.kind)), (.v (.string y13.name)), (.v (.int .i64 y13.n)), (.v (.int .i64 y13.d)), (.sl (Expr.rows y13.args)), (.v (.int .i64 y13.at_))] := Expr.rget (getI_some h14).2
    refine w_x (cj9 E1 E2 E5 E6 E16 X2.get R17 (getI_some h14).1 TT) (k := ?_)
    refine EC.wka (.cons (.refl _) (.cons (.refl _) .nil)) (S_ref04_Size _ _ _ h16 _ _  ?_)
    refine w_y (cj9 E1 E2 E5 E6 E16 X2.get R17 (getI_some h14).1 TT) (k := ?_)
    refine w_bk ?_
    obtain rfl := some_inj h11
    have q6 := cj9 E1 E2 E5 E6 E16 X2.get R17 (getI_some h14).1 TT
    exact cw_n ⟨_, WkE.refl _, _, rfl, X2, (xv q6), (xv q6), (xv q6), (xv q6), hP⟩
   obtain ⟨vn_12, rfl, X2, E1, E2, E5, E6, hP⟩ := hI
   try dsimp only at hf7
   refine w_x (cj6 E1 E2 E5 E6 X2.get TT) (k := ?_)
   obtain rfl := some_inj hf7
   have q7 := cj6 E1 E2 E5 E6 X2.get TT
   exact iq_n rfl ⟨_, WkE.refl _, _, _, rfl, X2, (xv q7), (xv q7), (xv q7), (xv q7), hP⟩
  ·refine xf (cj6 E1 E2 E5 E6 E16 hb9) ?_
   refine w_exit ?_
   refine w_sqx ?_
   obtain rfl := some_inj hf7
   refine iq_x rfl fun hr18 => ?_
   obtain rfl := hr18
   refine w_bkx ?_
   exact cw_n ⟨_, WkE.refl _, _, rfl, (xv (cj5 E1 E2 E5 E6 E16)), hP⟩
 obtain ⟨vn_3, rfl, E5, hP⟩ := hI
 try dsimp only at h
 refine w_sa (fun e s => e 4 = (.v (.int .i64 vn_3)) ∧ Pre σ s) ?_ fun e s hI => ?_
 ·refine w_x (cj2 E5 TT) (k := ?_)
  exact cw_n ⟨_, WkE.refl _, (xv (cj2 E5 TT)), hP⟩
 obtain ⟨E4, hP⟩ := hI
 refine w_ret ?_
 obtain rfl := some_inj h
 exact w_fin (fun _ => rfl) (xr (rs := #[.tmp 4]) E4) hP (r' := (.v (.int .i64 vn_3))) (.refl _) (.v _) hK
noncomputable def ref04_Depth_L0 (a0 : Expr) (a1 : Int) (f_ref04_Depth : Expr → Int → Option Int) : (Int × Int) → Option ((Int × Int) ⊕ Int)
 | (vd_5, vi_6) =>
  if (decide (vi_6 < ((List.length a0.args : Nat) : Int))) then
   ((getI a0.args vi_6).bind fun y13 =>
   (f_ref04_Depth y13 (IntKind.i64.wrap (a1 - (1 : Int)))).bind fun y15 =>
   some (if vd_5 < y15 then y15 else vd_5) : Option Int).bind fun vd_12 =>
   some (.inl (vd_12, (IntKind.i64.wrap (vi_6 + (1 : Int)))))
  else
   some (.inr vd_5)
noncomputable def B_ref04_Depth (f_ref04_Depth : Expr → Int → Option Int) (a0 : Expr) (a1 : Int) : Option Int :=
 if (decide (a1 = (0 : Int))) then
  some (0 : Int)
 else
  (iterO (ref04_Depth_L0 a0 a1 f_ref04_Depth) ((0 : Int), (0 : Int)) : Option Int).bind fun vd_4 =>
  some (IntKind.i64.wrap (vd_4 + (1 : Int)))
abbrev ref04_Depth_A0 (a0 : Expr) : List PV := [(.v (.int .i64 a0.kind)), (.v (.string a0.name)), (.v (.int .i64 a0.n)), (.v (.int .i64 a0.d)), (.sl (Expr.rows a0.args)), (.v (.int .i64 a0.at_))]
theorem W_ref04_Depth (f_ref04_Depth : Expr → Int → Option Int) (S_ref04_Depth : Sat_ref04_Depth f_ref04_Depth) : Sat_ref04_Depth (B_ref04_Depth f_ref04_Depth) := by
 intro a0 a1 r h σ K hK
 refine w_fp Try.func41 rfl rfl (by kernel_rfl) ?_
 unfold B_ref04_Depth at h
 have hP := Pre.refl σ
 have E0 : argE [(.ag (ref04_Depth_A0 a0)), (.v (.int .i64 a1))] 0 = (.ag (ref04_Depth_A0 a0)) := rfl
 have E1 : argE [(.ag (ref04_Depth_A0 a0)), (.v (.int .i64 a1))] 1 = (.v (.int .i64 a1)) := rfl
 have TT := cj6 Expr.rlen T_2 T_3 T_37 T_39 T_9
 refine w_sa (fun e s => ∃ i2 : Nat, Bx σ s i2 39 (ref04_Depth_A0 a0) ∧ e 1 = (.v (.int .i64 a1)) ∧ e 2 = (.pt i2 0) ∧ Pre σ s) ?_ fun e s hI => ?_
 ·refine w_x (cj3 E0 E1 TT) (k := ?_)
  exact cw_n ⟨_, WkE.refl _, σ.length, (Bx.new hP 39 (ref04_Depth_A0 a0)), (xv (cj3 E0 E1 TT)), (xv (cj3 E0 E1 TT)), (hP.app _)⟩
 obtain ⟨i2, X2, E1, E2, hP⟩ := hI
 refine w_assoc ?_
 refine w_sa (fun e s => Bx σ s i2 39 (ref04_Depth_A0 a0) ∧ e 1 = (.v (.int .i64 a1)) ∧ e 2 = (.pt i2 0) ∧ e 8 = (.v (.bool (decide (a1 = (0 : Int))))) ∧ Pre σ s) ?_ fun e s hI => ?_
 ·refine w_x (cj4 E1 E2 X2.get TT) (k := ?_)
  have q1 := cj4 E1 E2 X2.get TT
  exact cw_n ⟨_, WkE.refl _, X2, (xv q1), (xv q1), (xv q1), hP⟩
 obtain ⟨X2, E1, E2, E8, hP⟩ := hI
 refine w_seq ?_
 rcases ite_some h with ⟨hb1, h⟩ | ⟨hb1, h⟩
 ·refine xt (cj4 E1 E2 E8 hb1) ?_
  refine w_sa (fun e s => e 4 = (.v (.int .i64 (0 : Int))) ∧ Pre σ s) ?_ fun e s hI => ?_
  ·refine w_x (cj5 E1 E2 E8 X2.get TT) (k := ?_)
   exact cw_n ⟨_, WkE.refl _, (xv (cj5 E1 E2 E8 X2.get TT)), hP⟩
  obtain ⟨E4, hP⟩ := hI
  refine w_ret ?_
  refine w_sqr ?_
  obtain rfl := some_inj h
  exact w_fin (fun _ => rfl) (xr (rs := #[.tmp 4]) E4) hP (r' := (.v (.int .i64 (0 : Int)))) (.refl _) (.v _) hK
 ·refine xf (cj4 E1 E2 E8 hb1) ?_
  refine w_skip ?_
  refine w_sq ?_
  refine w_sa (fun e s => Bx σ s i2 39 (ref04_Depth_A0 a0) ∧ e 1 = (.v (.int .i64 a1)) ∧ e 2 = (.pt i2 0) ∧ e 5 = (.v (.int .i64 (0 : Int))) ∧ Pre σ s) ?_ fun e s hI => ?_
  ·refine w_x (cj5 E1 E2 E8 X2.get TT) (k := ?_)
   have q2 := cj5 E1 E2 E8 X2.get TT
   exact cw_n ⟨_, WkE.refl _, X2, (xv q2), (xv q2), (xv q2), hP⟩
  obtain ⟨X2, E1, E2, E5, hP⟩ := hI
  refine w_assoc ?_
  refine w_sa (fun e s => Bx σ s i2 39 (ref04_Depth_A0 a0) ∧ e 1 = (.v (.int .i64 a1)) ∧ e 2 = (.pt i2 0) ∧ e 5 = (.v (.int .i64 (0 : Int))) ∧ e 6 = (.v (.int .i64 (0 : Int))) ∧ Pre σ s) ?_ fun e s hI => ?_
  ·refine w_x (cj5 E1 E2 E5 X2.get TT) (k := ?_)
   have q3 := cj5 E1 E2 E5 X2.get TT
   exact cw_n ⟨_, WkE.refl _, X2, (xv q3), (xv q3), (xv q3), (xv q3), hP⟩
  obtain ⟨X2, E1, E2, E5, E6, hP⟩ := hI
  obtain ⟨x2, h3, h⟩ := bnd_some h
  refine w_sa (fun e s => ∃ vd_4 : Int, vd_4 = x2 ∧ e 5 = (.v (.int .i64 vd_4)) ∧ Pre σ s) ?_ fun e s hI => ?_
  ·refine w_block ?_
   have q4 := cj4 E1 E2 E5 E6
   refine w_iter h3 (fun v e s => ∃ vd_5 : Int, ∃ vi_6 : Int, (vd_5, vi_6) = v ∧ Bx σ s i2 39 (ref04_Depth_A0 a0) ∧ e 1 = (.v (.int .i64 a1)) ∧ e 2 = (.pt i2 0) ∧ e 5 = (.v (.int .i64 vd_5)) ∧ e 6 = (.v (.int .i64 vi_6)) ∧ Pre σ s) ⟨_, WkE.refl _, _, _, rfl, X2, (xv q4), (xv q4), (xv q4), (xv q4), hP⟩ fun v x7 e s hf8 hI => ?_
   obtain ⟨vd_5, vi_6, rfl, X2, E1, E2, E5, E6, hP⟩ := hI
   unfold ref04_Depth_L0 at hf8
   try dsimp only at hf8
   refine w_assoc ?_
   refine w_sa (fun e s => Bx σ s i2 39 (ref04_Depth_A0 a0) ∧ e 1 = (.v (.int .i64 a1)) ∧ e 2 = (.pt i2 0) ∧ e 5 = (.v (.int .i64 vd_5)) ∧ e 6 = (.v (.int .i64 vi_6)) ∧ e 13 = (.v (.bool (decide (vi_6 < ((List.length a0.args : Nat) : Int))))) ∧ Pre σ s) ?_ fun e s hI => ?_
   ·refine w_x (cj6 E1 E2 E5 E6 X2.get TT) (k := ?_)
    have q5 := cj6 E1 E2 E5 E6 X2.get TT
    exact cw_n ⟨_, WkE.refl _, X2, (xv q5), (xv q5), (xv q5), (xv q5), (xv q5), hP⟩
   obtain ⟨X2, E1, E2, E5, E6, E13, hP⟩ := hI
   refine w_seq ?_
   rcases ite_some hf8 with ⟨hb9, hf8⟩ | ⟨hb9, hf8⟩
   ·refine xt (cj6 E1 E2 E5 E6 E13 hb9) ?_
    refine w_skip ?_
    refine w_sq ?_
    obtain ⟨x10, h11, hf8⟩ := bnd_some hf8
    refine w_sa (fun e s => ∃ vd_12 : Int, vd_12 = x10 ∧ Bx σ s i2 39 (ref04_Depth_A0 a0) ∧ e 1 = (.v (.int .i64 a1)) ∧ e 2 = (.pt i2 0) ∧ e 5 = (.v (.int .i64 vd_12)) ∧ e 6 = (.v (.int .i64 vi_6)) ∧ Pre σ s) ?_ fun e s hI => ?_
    ·refine w_block ?_
     obtain ⟨y13, h14, h11⟩ := bnd_some h11
     obtain ⟨y15, h16, h11⟩ := bnd_some h11
     have R17 : (Expr.rows a0.args)[(vi_6).toNat]? = some [(.v (.int .i64 y13.kind)), (.v (.string y13.name)), (.v (.int .i64 y13.n)), (.v (.int .i64 y13.d)), (.sl (Expr.rows y13.args)), (.v (.int .i64 y13.at_))] := Expr.rget (getI_some h14).2
     refine w_x (cj9 E1 E2 E5 E6 E13 X2.get R17 (getI_some h14).1 TT) (k := ?_)
     refine EC.wka (.cons (.refl _) (.cons (.refl _) .nil)) (S_ref04_Depth _ _ _ h16 _ _  ?_)
     refine w_y (cj9 E1 E2 E5 E6 E13 X2.get R17 (getI_some h14).1 TT) (k := ?_)
     refine w_bk ?_
     obtain rfl := some_inj h11
     have q6 := cj9 E1 E2 E5 E6 E13 X2.get R17 (getI_some h14).1 TT
     exact cw_n ⟨_, WkE.refl _, _, rfl, X2, (xv q6), (xv q6), (xv q6), (xv q6), hP⟩
    obtain ⟨vd_12, rfl, X2, E1, E2, E5, E6, hP⟩ := hI
    try dsimp only at hf8
    refine w_x (cj6 E1 E2 E5 E6 X2.get TT) (k := ?_)
    obtain rfl := some_inj hf8
    have q7 := cj6 E1 E2 E5 E6 X2.get TT
    exact iq_n rfl ⟨_, WkE.refl _, _, _, rfl, X2, (xv q7), (xv q7), (xv q7), (xv q7), hP⟩
   ·refine xf (cj6 E1 E2 E5 E6 E13 hb9) ?_
    refine w_exit ?_
    refine w_sqx ?_
    obtain rfl := some_inj hf8
    refine iq_x rfl fun hr18 => ?_
    obtain rfl := hr18
    refine w_bkx ?_
    exact cw_n ⟨_, WkE.refl _, _, rfl, (xv (cj5 E1 E2 E5 E6 E13)), hP⟩
  obtain ⟨vd_4, rfl, E5, hP⟩ := hI
  try dsimp only at h
  refine w_sa (fun e s => e 4 = (.v (.int .i64 (IntKind.i64.wrap (vd_4 + (1 : Int))))) ∧ Pre σ s) ?_ fun e s hI => ?_
  ·refine w_x (cj2 E5 TT) (k := ?_)
   exact cw_n ⟨_, WkE.refl _, (xv (cj2 E5 TT)), hP⟩
  obtain ⟨E4, hP⟩ := hI
  refine w_ret ?_
  obtain rfl := some_inj h
  exact w_fin (fun _ => rfl) (xr (rs := #[.tmp 4]) E4) hP (r' := (.v (.int .i64 (IntKind.i64.wrap (vd_4 + (1 : Int)))))) (.refl _) (.v _) hK
def ref04_Body_K0 : (List ByteArray) := [(⟨#[43]⟩ : ByteArray), (⟨#[45]⟩ : ByteArray), (⟨#[42]⟩ : ByteArray), (⟨#[47]⟩ : ByteArray), (⟨#[37]⟩ : ByteArray), (⟨#[60]⟩ : ByteArray), (⟨#[61, 61]⟩ : ByteArray)]
noncomputable def ref04_Body_L1 (a0 : Expr) : Int → Option (Int ⊕ (Bool ⊕ Unit))
 | v5_37 =>
  if (decide (v5_37 < ((List.length ref04_Body_K0 : Nat) : Int))) then
   ((getI ref04_Body_K0 v5_37).bind fun y43 =>
   if (decide (y43 = a0.name)) then
    some (.inl (decide (((List.length a0.args : Nat) : Int) = (2 : Int))))
   else
    some (.inr ()) : Option (Bool ⊕ Unit)).bind fun x => match x with
   | .inl r => some (.inr (.inl r))
   | .inr _ =>
    some (.inl (IntKind.i64.wrap (v5_37 + (1 : Int))))
  else
   some (.inr (.inr ()))
noncomputable def ref04_Body_L0 (a0 : Expr) (f_ref04_Body : Expr → Option Bool) : Int → Option (Int ⊕ (Bool ⊕ Unit))
 | v3_3 =>
  if (decide (v3_3 < ((List.length a0.args : Nat) : Int))) then
   ((getI a0.args v3_3).bind fun y9 =>
   (f_ref04_Body y9).bind fun y11 =>
   if (!y11) then
    some (.inl false)
   else
    some (.inr ()) : Option (Bool ⊕ Unit)).bind fun x => match x with
   | .inl r => some (.inr (.inl r))
   | .inr _ =>
    some (.inl (IntKind.i64.wrap (v3_3 + (1 : Int))))
  else
   some (.inr (.inr ()))
noncomputable def B_ref04_Body (f_ref03_Right : ByteArray → Option Bool) (f_ref04_number : Int → Int → Int → Option Bool) (f_ref04_Body : Expr → Option Bool) (a0 : Expr) : Option Bool :=
 (iterO (ref04_Body_L0 a0 f_ref04_Body) (0 : Int) : Option (Bool ⊕ Unit)).bind fun x => match x with
 | .inl r => some r
 | .inr _ =>
  if (!decide (a0.d = (0 : Int))) then
   some false
  else
   (if (decide (a0.kind = (11 : Int))) then
    (f_ref03_Right a0.name).bind fun y21 =>
    some (.inl ((y21 && (decide (((List.length a0.args : Nat) : Int) = (0 : Int)))) && (decide (a0.n = (0 : Int)))))
   else
    if (decide (a0.kind = (12 : Int))) then
     (if ((decide (a0.name = (⟨#[]⟩ : ByteArray))) && (decide (((List.length a0.args : Nat) : Int) = (0 : Int)))) then
      (f_ref04_number a0.n (0 : Int) (1000000000 : Int)).bind fun y26 =>
      some y26
     else
      some false).bind fun w28 =>
     some (.inl (((decide (a0.name = (⟨#[]⟩ : ByteArray))) && (decide (((List.length a0.args : Nat) : Int) = (0 : Int)))) && w28))
    else
     some (.inr ()) : Option (Bool ⊕ Unit)).bind fun x => match x with
   | .inl r => some r
   | .inr _ =>
    if ((!decide (a0.kind = (13 : Int))) || (!decide (a0.n = (0 : Int)))) then
     some false
    else
     if (decide (a0.name = (⟨#[63]⟩ : ByteArray))) then
      some (decide (((List.length a0.args : Nat) : Int) = (3 : Int)))
     else
      (iterO (ref04_Body_L1 a0) (0 : Int) : Option (Bool ⊕ Unit)).bind fun x => match x with
      | .inl r => some r
      | .inr _ =>
       some false
abbrev ref04_Body_A0 (a0 : Expr) : List PV := [(.v (.int .i64 a0.kind)), (.v (.string a0.name)), (.v (.int .i64 a0.n)), (.v (.int .i64 a0.d)), (.sl (Expr.rows a0.args)), (.v (.int .i64 a0.at_))]
theorem W_ref04_Body (f_ref03_Right : ByteArray → Option Bool) (f_ref04_number : Int → Int → Int → Option Bool) (f_ref04_Body : Expr → Option Bool) (S_ref03_Right : Sat_ref03_Right f_ref03_Right) (S_ref04_number : Sat_ref04_number f_ref04_number) (S_ref04_Body : Sat_ref04_Body f_ref04_Body) : Sat_ref04_Body (B_ref04_Body f_ref03_Right f_ref04_number f_ref04_Body) := by
 intro a0 r h σ K hK
 refine w_fp Try.func42 rfl rfl (by kernel_rfl) ?_
 unfold B_ref04_Body at h
 have hP := Pre.refl σ
 have E0 : argE [(.ag (ref04_Body_A0 a0))] 0 = (.ag (ref04_Body_A0 a0)) := rfl
 have TT := cj7 Expr.rlen T_2 T_3 T_37 T_39 T_9 T_97
 refine w_sa (fun e s => ∃ i1 : Nat, Bx σ s i1 39 (ref04_Body_A0 a0) ∧ e 1 = (.pt i1 0) ∧ Pre σ s) ?_ fun e s hI => ?_
 ·refine w_x (cj2 E0 TT) (k := ?_)
  exact cw_n ⟨_, WkE.refl _, σ.length, (Bx.new hP 39 (ref04_Body_A0 a0)), (xv (cj2 E0 TT)), (hP.app _)⟩
 obtain ⟨i1, X1, E1, hP⟩ := hI
 refine w_assoc ?_
 refine w_sa (fun e s => Bx σ s i1 39 (ref04_Body_A0 a0) ∧ e 1 = (.pt i1 0) ∧ e 3 = (.v (.int .i64 (0 : Int))) ∧ Pre σ s) ?_ fun e s hI => ?_
 ·refine w_x (cj3 E1 X1.get TT) (k := ?_)
  exact cw_n ⟨_, WkE.refl _, X1, (xv (cj3 E1 X1.get TT)), (xv (cj3 E1 X1.get TT)), hP⟩
 obtain ⟨X1, E1, E3, hP⟩ := hI
 obtain ⟨x1, h2, h⟩ := bnd_some h
 refine w_sa (fun e s => .inr () = x1 ∧ Bx σ s i1 39 (ref04_Body_A0 a0) ∧ e 1 = (.pt i1 0) ∧ Pre σ s) ?_ fun e s hI => ?_
 ·refine w_block ?_
  refine w_iter h2 (fun v e s => ∃ v3_3 : Int, v3_3 = v ∧ Bx σ s i1 39 (ref04_Body_A0 a0) ∧ e 1 = (.pt i1 0) ∧ e 3 = (.v (.int .i64 v3_3)) ∧ Pre σ s) ⟨_, WkE.refl _, _, rfl, X1, (xv (cj2 E1 E3)), (xv (cj2 E1 E3)), hP⟩ fun v x4 e s hf5 hI => ?_
  obtain ⟨v3_3, rfl, X1, E1, E3, hP⟩ := hI
  unfold ref04_Body_L0 at hf5
  try dsimp only at hf5
  refine w_assoc ?_
  refine w_sa (fun e s => Bx σ s i1 39 (ref04_Body_A0 a0) ∧ e 1 = (.pt i1 0) ∧ e 3 = (.v (.int .i64 v3_3)) ∧ e 10 = (.v (.bool (decide (v3_3 < ((List.length a0.args : Nat) : Int))))) ∧ Pre σ s) ?_ fun e s hI => ?_
  ·refine w_x (cj4 E1 E3 X1.get TT) (k := ?_)
   have q1 := cj4 E1 E3 X1.get TT
   exact cw_n ⟨_, WkE.refl _, X1, (xv q1), (xv q1), (xv q1), hP⟩
  obtain ⟨X1, E1, E3, E10, hP⟩ := hI
  refine w_seq ?_
  rcases ite_some hf5 with ⟨hb6, hf5⟩ | ⟨hb6, hf5⟩
  ·refine xt (cj4 E1 E3 E10 hb6) ?_
   refine w_skip ?_
   refine w_sq ?_
   obtain ⟨x7, h8, hf5⟩ := bnd_some hf5
   refine w_sa (fun e s => .inr () = x7 ∧ Bx σ s i1 39 (ref04_Body_A0 a0) ∧ e 1 = (.pt i1 0) ∧ e 3 = (.v (.int .i64 v3_3)) ∧ Pre σ s) ?_ fun e s hI => ?_
   ·refine w_block ?_
    obtain ⟨y9, h10, h8⟩ := bnd_some h8
    obtain ⟨y11, h12, h8⟩ := bnd_some h8
    refine w_sa (fun e s => Bx σ s i1 39 (ref04_Body_A0 a0) ∧ e 1 = (.pt i1 0) ∧ e 3 = (.v (.int .i64 v3_3)) ∧ e 19 = (.v (.bool (!y11))) ∧ Pre σ s) ?_ fun e s hI => ?_
    ·have R13 : (Expr.rows a0.args)[(v3_3).toNat]? = some [(.v (.int .i64 y9.kind)), (.v (.string y9.name)), (.v (.int .i64 y9.n)), (.v (.int .i64 y9.d)), (.sl (Expr.rows y9.args)), (.v (.int .i64 y9.at_))] := Expr.rget (getI_some h10).2
     refine w_x (cj7 E1 E3 E10 X1.get R13 (getI_some h10).1 TT) (k := ?_)
     refine EC.wka (.cons (.refl _) .nil) (S_ref04_Body _ _ h12 _ _  ?_)
     refine w_y (cj7 E1 E3 E10 X1.get R13 (getI_some h10).1 TT) (k := ?_)
     have q2 := cj7 E1 E3 E10 X1.get R13 (getI_some h10).1 TT
     exact cw_n ⟨_, WkE.refl _, X1, (xv q2), (xv q2), (xv q2), hP⟩
    obtain ⟨X1, E1, E3, E19, hP⟩ := hI
    rcases ite_some h8 with ⟨hb14, h8⟩ | ⟨hb14, h8⟩
    ·refine xt (cj4 E1 E3 E19 hb14) ?_
     refine w_sa (fun e s => e 2 = (.v (.bool false)) ∧ Pre σ s) ?_ fun e s hI => ?_
     ·refine w_x (cj5 E1 E3 E19 X1.get TT) (k := ?_)
      exact cw_n ⟨_, WkE.refl _, (xv (cj5 E1 E3 E19 X1.get TT)), hP⟩
     obtain ⟨E2, hP⟩ := hI
     refine w_ret ?_
     refine w_bkr ?_
     obtain rfl := some_inj h8
     refine cw_r ?_
     try dsimp only at hf5
     obtain rfl := some_inj hf5
     refine iq_r rfl fun hr15 => ?_
     obtain rfl := hr15
     refine w_bkr ?_
     refine cw_r ?_
     try dsimp only at h
     obtain rfl := some_inj h
     exact w_fin (fun _ => rfl) (xr (rs := #[.tmp 2]) E2) hP (r' := (.v (.bool false))) (.refl _) (.v _) hK
    ·refine xf (cj4 E1 E3 E19 hb14) ?_
     refine w_skip ?_
     refine w_bk ?_
     obtain rfl := some_inj h8
     exact cw_n ⟨_, WkE.refl _, rfl, X1, (xv (cj3 E1 E3 E19)), (xv (cj3 E1 E3 E19)), hP⟩
   obtain ⟨rfl, X1, E1, E3, hP⟩ := hI
   try dsimp only at hf5
   refine w_x (cj4 E1 E3 X1.get TT) (k := ?_)
   obtain rfl := some_inj hf5
   exact iq_n rfl ⟨_, WkE.refl _, _, rfl, X1, (xv (cj4 E1 E3 X1.get TT)), (xv (cj4 E1 E3 X1.get TT)), hP⟩
  ·refine xf (cj4 E1 E3 E10 hb6) ?_
   refine w_exit ?_
   refine w_sqx ?_
   obtain rfl := some_inj hf5
   refine iq_x rfl fun hr16 => ?_
   obtain rfl := hr16
   refine w_bkx ?_
   exact cw_n ⟨_, WkE.refl _, rfl, X1, (xv (cj3 E1 E3 E10)), hP⟩
 obtain ⟨rfl, X1, E1, hP⟩ := hI
 try dsimp only at h
 refine w_assoc ?_
 refine w_sa (fun e s => Bx σ s i1 39 (ref04_Body_A0 a0) ∧ e 1 = (.pt i1 0) ∧ e 22 = (.v (.bool (!decide (a0.d = (0 : Int))))) ∧ Pre σ s) ?_ fun e s hI => ?_
 ·refine w_x (cj3 E1 X1.get TT) (k := ?_)
  exact cw_n ⟨_, WkE.refl _, X1, (xv (cj3 E1 X1.get TT)), (xv (cj3 E1 X1.get TT)), hP⟩
 obtain ⟨X1, E1, E22, hP⟩ := hI
 refine w_seq ?_
 rcases ite_some h with ⟨hb17, h⟩ | ⟨hb17, h⟩
 ·refine xt (cj3 E1 E22 hb17) ?_
  refine w_sa (fun e s => e 2 = (.v (.bool false)) ∧ Pre σ s) ?_ fun e s hI => ?_
  ·refine w_x (cj4 E1 E22 X1.get TT) (k := ?_)
   exact cw_n ⟨_, WkE.refl _, (xv (cj4 E1 E22 X1.get TT)), hP⟩
  obtain ⟨E2, hP⟩ := hI
  refine w_ret ?_
  refine w_sqr ?_
  obtain rfl := some_inj h
  exact w_fin (fun _ => rfl) (xr (rs := #[.tmp 2]) E2) hP (r' := (.v (.bool false))) (.refl _) (.v _) hK
 ·refine xf (cj3 E1 E22 hb17) ?_
  refine w_skip ?_
  refine w_sq ?_
  refine w_assoc ?_
  refine w_sa (fun e s => Bx σ s i1 39 (ref04_Body_A0 a0) ∧ e 1 = (.pt i1 0) ∧ e 24 = (.v (.int .i64 a0.kind)) ∧ Pre σ s) ?_ fun e s hI => ?_
  ·refine w_x (cj4 E1 E22 X1.get TT) (k := ?_)
   exact cw_n ⟨_, WkE.refl _, X1, (xv (cj4 E1 E22 X1.get TT)), (xv (cj4 E1 E22 X1.get TT)), hP⟩
  obtain ⟨X1, E1, E24, hP⟩ := hI
  obtain ⟨x18, h19, h⟩ := bnd_some h
  refine w_sa (fun e s => .inr () = x18 ∧ Bx σ s i1 39 (ref04_Body_A0 a0) ∧ e 1 = (.pt i1 0) ∧ Pre σ s) ?_ fun e s hI => ?_
  ·refine w_block ?_
   refine w_sa (fun e s => Bx σ s i1 39 (ref04_Body_A0 a0) ∧ e 1 = (.pt i1 0) ∧ e 24 = (.v (.int .i64 a0.kind)) ∧ e 25 = (.v (.bool (decide (a0.kind = (11 : Int))))) ∧ Pre σ s) ?_ fun e s hI => ?_
   ·refine w_x (cj4 E1 E24 X1.get TT) (k := ?_)
    have q3 := cj4 E1 E24 X1.get TT
    exact cw_n ⟨_, WkE.refl _, X1, (xv q3), (xv q3), (xv q3), hP⟩
   obtain ⟨X1, E1, E24, E25, hP⟩ := hI
   rcases ite_some h19 with ⟨hb20, h19⟩ | ⟨hb20, h19⟩
   ·refine xt (cj4 E1 E24 E25 hb20) ?_
    obtain ⟨y21, h22, h19⟩ := bnd_some h19
    refine w_sa (fun e s => e 2 = (.v (.bool ((y21 && (decide (((List.length a0.args : Nat) : Int) = (0 : Int)))) && (decide (a0.n = (0 : Int)))))) ∧ Pre σ s) ?_ fun e s hI => ?_
    ·cases hb23 : y21
     ·refine w_x (cj6 E1 E24 E25 X1.get hb23 TT) (k := ?_)
      refine EC.wka (.cons (.refl _) .nil) (S_ref03_Right _ _ h22 _ _  ?_)
      refine w_y (cj6 E1 E24 E25 X1.get hb23 TT) (k := ?_)
      exact cw_n ⟨_, WkE.refl _, (xv (cj6 E1 E24 E25 X1.get hb23 TT)), hP⟩
     ·cases hb24 : (decide (((List.length a0.args : Nat) : Int) = (0 : Int)))
      ·refine w_x (cj7 E1 E24 E25 X1.get hb23 hb24 TT) (k := ?_)
       refine EC.wka (.cons (.refl _) .nil) (S_ref03_Right _ _ h22 _ _  ?_)
       refine w_y (cj7 E1 E24 E25 X1.get hb23 hb24 TT) (k := ?_)
       exact cw_n ⟨_, WkE.refl _, (xv (cj7 E1 E24 E25 X1.get hb23 hb24 TT)), hP⟩
      ·refine w_x (cj7 E1 E24 E25 X1.get hb23 hb24 TT) (k := ?_)
       refine EC.wka (.cons (.refl _) .nil) (S_ref03_Right _ _ h22 _ _  ?_)
       refine w_y (cj7 E1 E24 E25 X1.get hb23 hb24 TT) (k := ?_)
       exact cw_n ⟨_, WkE.refl _, (xv (cj7 E1 E24 E25 X1.get hb23 hb24 TT)), hP⟩
    obtain ⟨E2, hP⟩ := hI
    refine w_ret ?_
    refine w_bkr ?_
    obtain rfl := some_inj h19
    refine cw_r ?_
    try dsimp only at h
    obtain rfl := some_inj h
    exact w_fin (fun _ => rfl) (xr (rs := #[.tmp 2]) E2) hP (r' := (.v (.bool ((y21 && (decide (((List.length a0.args : Nat) : Int) = (0 : Int)))) && (decide (a0.n = (0 : Int))))))) (.refl _) (.v _) hK
   ·refine xf (cj4 E1 E24 E25 hb20) ?_
    refine w_sa (fun e s => Bx σ s i1 39 (ref04_Body_A0 a0) ∧ e 1 = (.pt i1 0) ∧ e 41 = (.v (.bool (decide (a0.kind = (12 : Int))))) ∧ Pre σ s) ?_ fun e s hI => ?_
    ·refine w_x (cj5 E1 E24 E25 X1.get TT) (k := ?_)
     exact cw_n ⟨_, WkE.refl _, X1, (xv (cj5 E1 E24 E25 X1.get TT)), (xv (cj5 E1 E24 E25 X1.get TT)), hP⟩
    obtain ⟨X1, E1, E41, hP⟩ := hI
    rcases ite_some h19 with ⟨hb25, h19⟩ | ⟨hb25, h19⟩
    ·refine xt (cj3 E1 E41 hb25) ?_
     obtain ⟨w28, h29, h19⟩ := bnd_some h19
     refine w_sa (fun e s => e 2 = (.v (.bool (((decide (a0.name = (⟨#[]⟩ : ByteArray))) && (decide (((List.length a0.args : Nat) : Int) = (0 : Int)))) && w28))) ∧ Pre σ s) ?_ fun e s hI => ?_
     ·cases hb30 : (decide (a0.name = (⟨#[]⟩ : ByteArray)))
      ·replace h29 := ite_f (by simp only [hb30, Bool.or_true, Bool.true_or, Bool.or_false, Bool.false_or, Bool.and_true, Bool.true_and, Bool.and_false, Bool.false_and, Bool.not_true, Bool.not_false, cond_true, cond_false]) h29
       obtain rfl := some_inj h29
       refine w_x (cj5 E1 E41 X1.get hb30 TT) (k := ?_)
       exact cw_n ⟨_, WkE.refl _, (xv (cj5 E1 E41 X1.get hb30 TT)), hP⟩
      ·cases hb31 : (decide (((List.length a0.args : Nat) : Int) = (0 : Int)))
       ·replace h29 := ite_f (by simp only [hb30, hb31, Bool.or_true, Bool.true_or, Bool.or_false, Bool.false_or, Bool.and_true, Bool.true_and, Bool.and_false, Bool.false_and, Bool.not_true, Bool.not_false, cond_true, cond_false]) h29
        obtain rfl := some_inj h29
        refine w_x (cj6 E1 E41 X1.get hb30 hb31 TT) (k := ?_)
        exact cw_n ⟨_, WkE.refl _, (xv (cj6 E1 E41 X1.get hb30 hb31 TT)), hP⟩
       ·replace h29 := ite_t (by simp only [hb30, hb31, Bool.or_true, Bool.true_or, Bool.or_false, Bool.false_or, Bool.and_true, Bool.true_and, Bool.and_false, Bool.false_and, Bool.not_true, Bool.not_false, cond_true, cond_false]) h29
        obtain ⟨y26, h27, h29⟩ := bnd_some h29
        obtain rfl := some_inj h29
        refine w_x (cj6 E1 E41 X1.get hb30 hb31 TT) (k := ?_)
        refine EC.wka (.cons (.refl _) (.cons (.refl _) (.cons (.refl _) .nil))) (S_ref04_number _ _ _ _ h27 _ _  ?_)
        refine w_y (cj6 E1 E41 X1.get hb30 hb31 TT) (k := ?_)
        exact cw_n ⟨_, WkE.refl _, (xv (cj6 E1 E41 X1.get hb30 hb31 TT)), hP⟩
     obtain ⟨E2, hP⟩ := hI
     refine w_ret ?_
     refine w_bkr ?_
     obtain rfl := some_inj h19
     refine cw_r ?_
     try dsimp only at h
     obtain rfl := some_inj h
     exact w_fin (fun _ => rfl) (xr (rs := #[.tmp 2]) E2) hP (r' := (.v (.bool (((decide (a0.name = (⟨#[]⟩ : ByteArray))) && (decide (((List.length a0.args : Nat) : Int) = (0 : Int)))) && w28)))) (.refl _) (.v _) hK
    ·refine xf (cj3 E1 E41 hb25) ?_
     refine w_skip ?_
     refine w_bk ?_
     obtain rfl := some_inj h19
     exact cw_n ⟨_, WkE.refl _, rfl, X1, (xv (cj2 E1 E41)), hP⟩
  obtain ⟨rfl, X1, E1, hP⟩ := hI
  try dsimp only at h
  refine w_assoc ?_
  refine w_sa (fun e s => Bx σ s i1 39 (ref04_Body_A0 a0) ∧ e 1 = (.pt i1 0) ∧ e 64 = (.v (.bool ((!decide (a0.kind = (13 : Int))) || (!decide (a0.n = (0 : Int)))))) ∧ Pre σ s) ?_ fun e s hI => ?_
  ·cases hb32 : (!decide (a0.kind = (13 : Int)))
   ·refine w_x (cj4 E1 X1.get hb32 TT) (k := ?_)
    exact cw_n ⟨_, WkE.refl _, X1, (xv (cj4 E1 X1.get hb32 TT)), (xv (cj4 E1 X1.get hb32 TT)), hP⟩
   ·refine w_x (cj4 E1 X1.get hb32 TT) (k := ?_)
    exact cw_n ⟨_, WkE.refl _, X1, (xv (cj4 E1 X1.get hb32 TT)), (xv (cj4 E1 X1.get hb32 TT)), hP⟩
  obtain ⟨X1, E1, E64, hP⟩ := hI
  refine w_seq ?_
  rcases ite_some h with ⟨hb33, h⟩ | ⟨hb33, h⟩
  ·refine xt (cj3 E1 E64 hb33) ?_
   refine w_sa (fun e s => e 2 = (.v (.bool false)) ∧ Pre σ s) ?_ fun e s hI => ?_
   ·refine w_x (cj4 E1 E64 X1.get TT) (k := ?_)
    exact cw_n ⟨_, WkE.refl _, (xv (cj4 E1 E64 X1.get TT)), hP⟩
   obtain ⟨E2, hP⟩ := hI
   refine w_ret ?_
   refine w_sqr ?_
   obtain rfl := some_inj h
   exact w_fin (fun _ => rfl) (xr (rs := #[.tmp 2]) E2) hP (r' := (.v (.bool false))) (.refl _) (.v _) hK
  ·refine xf (cj3 E1 E64 hb33) ?_
   refine w_skip ?_
   refine w_sq ?_
   refine w_assoc ?_
   refine w_sa (fun e s => Bx σ s i1 39 (ref04_Body_A0 a0) ∧ e 1 = (.pt i1 0) ∧ e 67 = (.v (.bool (decide (a0.name = (⟨#[63]⟩ : ByteArray))))) ∧ Pre σ s) ?_ fun e s hI => ?_
   ·refine w_x (cj4 E1 E64 X1.get TT) (k := ?_)
    exact cw_n ⟨_, WkE.refl _, X1, (xv (cj4 E1 E64 X1.get TT)), (xv (cj4 E1 E64 X1.get TT)), hP⟩
   obtain ⟨X1, E1, E67, hP⟩ := hI
   refine w_seq ?_
   rcases ite_some h with ⟨hb34, h⟩ | ⟨hb34, h⟩
   ·refine xt (cj3 E1 E67 hb34) ?_
    refine w_sa (fun e s => e 2 = (.v (.bool (decide (((List.length a0.args : Nat) : Int) = (3 : Int))))) ∧ Pre σ s) ?_ fun e s hI => ?_
    ·refine w_x (cj4 E1 E67 X1.get TT) (k := ?_)
     exact cw_n ⟨_, WkE.refl _, (xv (cj4 E1 E67 X1.get TT)), hP⟩
    obtain ⟨E2, hP⟩ := hI
    refine w_ret ?_
    refine w_sqr ?_
    obtain rfl := some_inj h
    exact w_fin (fun _ => rfl) (xr (rs := #[.tmp 2]) E2) hP (r' := (.v (.bool (decide (((List.length a0.args : Nat) : Int) = (3 : Int)))))) (.refl _) (.v _) hK
   ·refine xf (cj3 E1 E67 hb34) ?_
    refine w_skip ?_
    refine w_sq ?_
    refine w_sa (fun e s => Bx σ s i1 39 (ref04_Body_A0 a0) ∧ e 1 = (.pt i1 0) ∧ e 4 = (.sl (List.map C_s ref04_Body_K0)) ∧ Pre σ s) ?_ fun e s hI => ?_
    ·refine w_x (cj4 E1 E67 X1.get TT) (k := ?_)
     have q4 := cj4 E1 E67 X1.get TT
     exact cw_n ⟨_, WkE.upd (WkE.refl _) (t := 4) (p := (.sl [[(.v (.string (⟨#[43]⟩ : ByteArray)))], [(.v (.string (⟨#[45]⟩ : ByteArray)))], [(.v (.string (⟨#[42]⟩ : ByteArray)))], [(.v (.string (⟨#[47]⟩ : ByteArray)))], [(.v (.string (⟨#[37]⟩ : ByteArray)))], [(.v (.string (⟨#[60]⟩ : ByteArray)))], [(.v (.string (⟨#[61, 61]⟩ : ByteArray)))]])) (q := (.sl (List.map C_s ref04_Body_K0))) (xv q4) (Wk.of_eq rfl), X1, (xv q4), (xv q4), hP⟩
    obtain ⟨X1, E1, E4, hP⟩ := hI
    refine w_assoc ?_
    refine w_sa (fun e s => Bx σ s i1 39 (ref04_Body_A0 a0) ∧ e 1 = (.pt i1 0) ∧ e 4 = (.sl (List.map C_s ref04_Body_K0)) ∧ e 5 = (.v (.int .i64 (0 : Int))) ∧ Pre σ s) ?_ fun e s hI => ?_
    ·refine w_x (cj4 E1 E4 X1.get TT) (k := ?_)
     have q5 := cj4 E1 E4 X1.get TT
     exact cw_n ⟨_, WkE.refl _, X1, (xv q5), (xv q5), (xv q5), hP⟩
    obtain ⟨X1, E1, E4, E5, hP⟩ := hI
    obtain ⟨x35, h36, h⟩ := bnd_some h
    refine w_sa (fun e s => .inr () = x35 ∧ Pre σ s) ?_ fun e s hI => ?_
    ·refine w_block ?_
     refine w_iter h36 (fun v e s => ∃ v5_37 : Int, v5_37 = v ∧ Bx σ s i1 39 (ref04_Body_A0 a0) ∧ e 1 = (.pt i1 0) ∧ e 4 = (.sl (List.map C_s ref04_Body_K0)) ∧ e 5 = (.v (.int .i64 v5_37)) ∧ Pre σ s) ⟨_, WkE.refl _, _, rfl, X1, (xv (cj3 E1 E4 E5)), (xv (cj3 E1 E4 E5)), (xv (cj3 E1 E4 E5)), hP⟩ fun v x38 e s hf39 hI => ?_
     obtain ⟨v5_37, rfl, X1, E1, E4, E5, hP⟩ := hI
     unfold ref04_Body_L1 at hf39
     try dsimp only at hf39
     refine w_assoc ?_
     refine w_sa (fun e s => Bx σ s i1 39 (ref04_Body_A0 a0) ∧ e 1 = (.pt i1 0) ∧ e 4 = (.sl (List.map C_s ref04_Body_K0)) ∧ e 5 = (.v (.int .i64 v5_37)) ∧ e 76 = (.v (.bool (decide (v5_37 < ((List.length ref04_Body_K0 : Nat) : Int))))) ∧ Pre σ s) ?_ fun e s hI => ?_
     ·refine w_x (cj5 E1 E4 E5 X1.get TT) (k := ?_)
      have q6 := cj5 E1 E4 E5 X1.get TT
      exact cw_n ⟨_, WkE.refl _, X1, (xv q6), (xv q6), (xv q6), (xv q6), hP⟩
     obtain ⟨X1, E1, E4, E5, E76, hP⟩ := hI
     refine w_seq ?_
     rcases ite_some hf39 with ⟨hb40, hf39⟩ | ⟨hb40, hf39⟩
     ·refine xt (cj5 E1 E4 E5 E76 hb40) ?_
      refine w_skip ?_
      refine w_sq ?_
      obtain ⟨x41, h42, hf39⟩ := bnd_some hf39
      refine w_sa (fun e s => .inr () = x41 ∧ Bx σ s i1 39 (ref04_Body_A0 a0) ∧ e 1 = (.pt i1 0) ∧ e 4 = (.sl (List.map C_s ref04_Body_K0)) ∧ e 5 = (.v (.int .i64 v5_37)) ∧ Pre σ s) ?_ fun e s hI => ?_
      ·refine w_block ?_
       obtain ⟨y43, h44, h42⟩ := bnd_some h42
       refine w_sa (fun e s => Bx σ s i1 39 (ref04_Body_A0 a0) ∧ e 1 = (.pt i1 0) ∧ e 4 = (.sl (List.map C_s ref04_Body_K0)) ∧ e 5 = (.v (.int .i64 v5_37)) ∧ e 85 = (.v (.bool (decide (y43 = a0.name)))) ∧ Pre σ s) ?_ fun e s hI => ?_
       ·have R45 : (List.map C_s ref04_Body_K0)[(v5_37).toNat]? = some [(.v (.string y43))] := map_get (getI_some h44).2
        refine w_xp (cj8 E1 E4 E5 E76 X1.get R45 (getI_some h44).1 TT) (k := ?_)
        have q7 := cj8 E1 E4 E5 E76 X1.get R45 (getI_some h44).1 TT
        exact cw_n ⟨_, WkE.refl _, X1, (xv q7), (xv q7), (xv q7), (xv q7), hP⟩
       obtain ⟨X1, E1, E4, E5, E85, hP⟩ := hI
       rcases ite_some h42 with ⟨hb46, h42⟩ | ⟨hb46, h42⟩
       ·refine xt (cj5 E1 E4 E5 E85 hb46) ?_
        refine w_sa (fun e s => e 2 = (.v (.bool (decide (((List.length a0.args : Nat) : Int) = (2 : Int))))) ∧ Pre σ s) ?_ fun e s hI => ?_
        ·refine w_x (cj6 E1 E4 E5 E85 X1.get TT) (k := ?_)
         exact cw_n ⟨_, WkE.refl _, (xv (cj6 E1 E4 E5 E85 X1.get TT)), hP⟩
        obtain ⟨E2, hP⟩ := hI
        refine w_ret ?_
        refine w_bkr ?_
        obtain rfl := some_inj h42
        refine cw_r ?_
        try dsimp only at hf39
        obtain rfl := some_inj hf39
        refine iq_r rfl fun hr47 => ?_
        obtain rfl := hr47
        refine w_bkr ?_
        refine cw_r ?_
        try dsimp only at h
        obtain rfl := some_inj h
        exact w_fin (fun _ => rfl) (xr (rs := #[.tmp 2]) E2) hP (r' := (.v (.bool (decide (((List.length a0.args : Nat) : Int) = (2 : Int)))))) (.refl _) (.v _) hK
       ·refine xf (cj5 E1 E4 E5 E85 hb46) ?_
        refine w_skip ?_
        refine w_bk ?_
        obtain rfl := some_inj h42
        have q8 := cj4 E1 E4 E5 E85
        exact cw_n ⟨_, WkE.refl _, rfl, X1, (xv q8), (xv q8), (xv q8), hP⟩
      obtain ⟨rfl, X1, E1, E4, E5, hP⟩ := hI
      try dsimp only at hf39
      refine w_x (cj5 E1 E4 E5 X1.get TT) (k := ?_)
      obtain rfl := some_inj hf39
      have q9 := cj5 E1 E4 E5 X1.get TT
      exact iq_n rfl ⟨_, WkE.refl _, _, rfl, X1, (xv q9), (xv q9), (xv q9), hP⟩
     ·refine xf (cj5 E1 E4 E5 E76 hb40) ?_
      refine w_exit ?_
      refine w_sqx ?_
      obtain rfl := some_inj hf39
      refine iq_x rfl fun hr48 => ?_
      obtain rfl := hr48
      refine w_bkx ?_
      exact cw_n ⟨_, WkE.refl _, rfl, hP⟩
    obtain ⟨rfl, hP⟩ := hI
    try dsimp only at h
    refine w_sa (fun e s => e 2 = (.v (.bool false)) ∧ Pre σ s) ?_ fun e s hI => ?_
    ·refine w_x Expr.rlen (k := ?_)
     exact cw_n ⟨_, WkE.refl _, (xv Expr.rlen), hP⟩
    obtain ⟨E2, hP⟩ := hI
    refine w_ret ?_
    obtain rfl := some_inj h
    exact w_fin (fun _ => rfl) (xr (rs := #[.tmp 2]) E2) hP (r' := (.v (.bool false))) (.refl _) (.v _) hK
noncomputable def ref04_Expr_L0 (a0 : Expr) (f_ref04_Expr : Expr → Option Bool) : Int → Option (Int ⊕ (Bool ⊕ Unit))
 | v3_3 =>
  if (decide (v3_3 < ((List.length a0.args : Nat) : Int))) then
   ((getI a0.args v3_3).bind fun y9 =>
   (f_ref04_Expr y9).bind fun y11 =>
   if (!y11) then
    some (.inl false)
   else
    some (.inr ()) : Option (Bool ⊕ Unit)).bind fun x => match x with
   | .inl r => some (.inr (.inl r))
   | .inr _ =>
    some (.inl (IntKind.i64.wrap (v3_3 + (1 : Int))))
  else
   some (.inr (.inr ()))
noncomputable def B_ref04_Expr (f_ref03_Right : ByteArray → Option Bool) (f_ref04_number : Int → Int → Int → Option Bool) (f_ref04_Expr : Expr → Option Bool) (a0 : Expr) : Option Bool :=
 (iterO (ref04_Expr_L0 a0 f_ref04_Expr) (0 : Int) : Option (Bool ⊕ Unit)).bind fun x => match x with
 | .inl r => some r
 | .inr _ =>
  (if (decide (a0.kind = (1 : Int))) then
   (f_ref03_Right a0.name).bind fun y21 =>
   some (.inl ((y21 && (decide (((List.length a0.args : Nat) : Int) = (0 : Int)))) && ((decide (a0.n = (0 : Int))) && (decide (a0.d = (0 : Int))))))
  else
   if (decide (a0.kind = (2 : Int))) then
    (f_ref03_Right a0.name).bind fun y26 =>
    some (.inl (((y26 && (decide ((1 : Int) ≤ ((List.length a0.args : Nat) : Int)))) && (decide (((List.length a0.args : Nat) : Int) ≤ (6 : Int)))) && ((decide (a0.n = (0 : Int))) && (decide (a0.d = (0 : Int))))))
   else
    some (.inr ()) : Option (Bool ⊕ Unit)).bind fun x => match x with
  | .inl r => some r
  | .inr _ =>
   if (((!decide (((List.length a0.args : Nat) : Int) = (1 : Int))) || (!decide (a0.name = (⟨#[]⟩ : ByteArray)))) || ((!decide (a0.d = (0 : Int))) && (!decide (a0.kind = (5 : Int))))) then
    some false
   else
    ((if (decide (a0.kind = (3 : Int))) then
     some (decide (a0.kind = (3 : Int)))
    else
     some (decide (a0.kind = (4 : Int))) : Option Bool).bind fun v84_39 =>
    if v84_39 then
     (f_ref04_number a0.n (1 : Int) (100 : Int)).bind fun y42 =>
     some (.inl y42)
    else
     if (decide (a0.kind = (5 : Int))) then
      (f_ref04_number a0.n (0 : Int) (100 : Int)).bind fun y45 =>
      (if y45 then
       (f_ref04_number a0.d (1 : Int) (100 : Int)).bind fun y47 =>
       some y47
      else
       some false).bind fun w49 =>
      some (.inl (y45 && w49))
     else
      (if (decide (a0.kind = (6 : Int))) then
       some (decide (a0.kind = (6 : Int)))
      else
       some (decide (a0.kind = (8 : Int))) : Option Bool).bind fun v100_54 =>
      if v100_54 then
       (f_ref04_number a0.n (-1000000000 : Int) (1000000000 : Int)).bind fun y57 =>
       some (.inl y57)
      else
       some (.inr ()) : Option (Bool ⊕ Unit)).bind fun x => match x with
    | .inl r => some r
    | .inr _ =>
     some ((decide (a0.kind = (7 : Int))) && (decide (a0.n = (0 : Int))))
abbrev ref04_Expr_A0 (a0 : Expr) : List PV := [(.v (.int .i64 a0.kind)), (.v (.string a0.name)), (.v (.int .i64 a0.n)), (.v (.int .i64 a0.d)), (.sl (Expr.rows a0.args)), (.v (.int .i64 a0.at_))]
theorem W_ref04_Expr (f_ref03_Right : ByteArray → Option Bool) (f_ref04_number : Int → Int → Int → Option Bool) (f_ref04_Expr : Expr → Option Bool) (S_ref03_Right : Sat_ref03_Right f_ref03_Right) (S_ref04_number : Sat_ref04_number f_ref04_number) (S_ref04_Expr : Sat_ref04_Expr f_ref04_Expr) : Sat_ref04_Expr (B_ref04_Expr f_ref03_Right f_ref04_number f_ref04_Expr) := by
 intro a0 r h σ K hK
 refine w_fp Try.func43 rfl rfl (by kernel_rfl) ?_
 unfold B_ref04_Expr at h
 have hP := Pre.refl σ
 have E0 : argE [(.ag (ref04_Expr_A0 a0))] 0 = (.ag (ref04_Expr_A0 a0)) := rfl
 have TT := cj6 Expr.rlen T_2 T_3 T_37 T_39 T_9
 refine w_sa (fun e s => ∃ i1 : Nat, Bx σ s i1 39 (ref04_Expr_A0 a0) ∧ e 1 = (.pt i1 0) ∧ Pre σ s) ?_ fun e s hI => ?_
 ·refine w_x (cj2 E0 TT) (k := ?_)
  exact cw_n ⟨_, WkE.refl _, σ.length, (Bx.new hP 39 (ref04_Expr_A0 a0)), (xv (cj2 E0 TT)), (hP.app _)⟩
 obtain ⟨i1, X1, E1, hP⟩ := hI
 refine w_assoc ?_
 refine w_sa (fun e s => Bx σ s i1 39 (ref04_Expr_A0 a0) ∧ e 1 = (.pt i1 0) ∧ e 3 = (.v (.int .i64 (0 : Int))) ∧ Pre σ s) ?_ fun e s hI => ?_
 ·refine w_x (cj3 E1 X1.get TT) (k := ?_)
  exact cw_n ⟨_, WkE.refl _, X1, (xv (cj3 E1 X1.get TT)), (xv (cj3 E1 X1.get TT)), hP⟩
 obtain ⟨X1, E1, E3, hP⟩ := hI
 obtain ⟨x1, h2, h⟩ := bnd_some h
 refine w_sa (fun e s => .inr () = x1 ∧ Bx σ s i1 39 (ref04_Expr_A0 a0) ∧ e 1 = (.pt i1 0) ∧ Pre σ s) ?_ fun e s hI => ?_
 ·refine w_block ?_
  refine w_iter h2 (fun v e s => ∃ v3_3 : Int, v3_3 = v ∧ Bx σ s i1 39 (ref04_Expr_A0 a0) ∧ e 1 = (.pt i1 0) ∧ e 3 = (.v (.int .i64 v3_3)) ∧ Pre σ s) ⟨_, WkE.refl _, _, rfl, X1, (xv (cj2 E1 E3)), (xv (cj2 E1 E3)), hP⟩ fun v x4 e s hf5 hI => ?_
  obtain ⟨v3_3, rfl, X1, E1, E3, hP⟩ := hI
  unfold ref04_Expr_L0 at hf5
  try dsimp only at hf5
  refine w_assoc ?_
  refine w_sa (fun e s => Bx σ s i1 39 (ref04_Expr_A0 a0) ∧ e 1 = (.pt i1 0) ∧ e 3 = (.v (.int .i64 v3_3)) ∧ e 9 = (.v (.bool (decide (v3_3 < ((List.length a0.args : Nat) : Int))))) ∧ Pre σ s) ?_ fun e s hI => ?_
  ·refine w_x (cj4 E1 E3 X1.get TT) (k := ?_)
   have q1 := cj4 E1 E3 X1.get TT
   exact cw_n ⟨_, WkE.refl _, X1, (xv q1), (xv q1), (xv q1), hP⟩
  obtain ⟨X1, E1, E3, E9, hP⟩ := hI
  refine w_seq ?_
  rcases ite_some hf5 with ⟨hb6, hf5⟩ | ⟨hb6, hf5⟩
  ·refine xt (cj4 E1 E3 E9 hb6) ?_
   refine w_skip ?_
   refine w_sq ?_
   obtain ⟨x7, h8, hf5⟩ := bnd_some hf5
   refine w_sa (fun e s => .inr () = x7 ∧ Bx σ s i1 39 (ref04_Expr_A0 a0) ∧ e 1 = (.pt i1 0) ∧ e 3 = (.v (.int .i64 v3_3)) ∧ Pre σ s) ?_ fun e s hI => ?_
   ·refine w_block ?_
    obtain ⟨y9, h10, h8⟩ := bnd_some h8
    obtain ⟨y11, h12, h8⟩ := bnd_some h8
    refine w_sa (fun e s => Bx σ s i1 39 (ref04_Expr_A0 a0) ∧ e 1 = (.pt i1 0) ∧ e 3 = (.v (.int .i64 v3_3)) ∧ e 18 = (.v (.bool (!y11))) ∧ Pre σ s) ?_ fun e s hI => ?_
    ·have R13 : (Expr.rows a0.args)[(v3_3).toNat]? = some [(.v (.int .i64 y9.kind)), (.v (.string y9.name)), (.v (.int .i64 y9.n)), (.v (.int .i64 y9.d)), (.sl (Expr.rows y9.args)), (.v (.int .i64 y9.at_))] := Expr.rget (getI_some h10).2
     refine w_x (cj7 E1 E3 E9 X1.get R13 (getI_some h10).1 TT) (k := ?_)
     refine EC.wka (.cons (.refl _) .nil) (S_ref04_Expr _ _ h12 _ _  ?_)
     refine w_y (cj7 E1 E3 E9 X1.get R13 (getI_some h10).1 TT) (k := ?_)
     have q2 := cj7 E1 E3 E9 X1.get R13 (getI_some h10).1 TT
     exact cw_n ⟨_, WkE.refl _, X1, (xv q2), (xv q2), (xv q2), hP⟩
    obtain ⟨X1, E1, E3, E18, hP⟩ := hI
    rcases ite_some h8 with ⟨hb14, h8⟩ | ⟨hb14, h8⟩
    ·refine xt (cj4 E1 E3 E18 hb14) ?_
     refine w_sa (fun e s => e 2 = (.v (.bool false)) ∧ Pre σ s) ?_ fun e s hI => ?_
     ·refine w_x (cj5 E1 E3 E18 X1.get TT) (k := ?_)
      exact cw_n ⟨_, WkE.refl _, (xv (cj5 E1 E3 E18 X1.get TT)), hP⟩
     obtain ⟨E2, hP⟩ := hI
     refine w_ret ?_
     refine w_bkr ?_
     obtain rfl := some_inj h8
     refine cw_r ?_
     try dsimp only at hf5
     obtain rfl := some_inj hf5
     refine iq_r rfl fun hr15 => ?_
     obtain rfl := hr15
     refine w_bkr ?_
     refine cw_r ?_
     try dsimp only at h
     obtain rfl := some_inj h
     exact w_fin (fun _ => rfl) (xr (rs := #[.tmp 2]) E2) hP (r' := (.v (.bool false))) (.refl _) (.v _) hK
    ·refine xf (cj4 E1 E3 E18 hb14) ?_
     refine w_skip ?_
     refine w_bk ?_
     obtain rfl := some_inj h8
     exact cw_n ⟨_, WkE.refl _, rfl, X1, (xv (cj3 E1 E3 E18)), (xv (cj3 E1 E3 E18)), hP⟩
   obtain ⟨rfl, X1, E1, E3, hP⟩ := hI
   try dsimp only at hf5
   refine w_x (cj4 E1 E3 X1.get TT) (k := ?_)
   obtain rfl := some_inj hf5
   exact iq_n rfl ⟨_, WkE.refl _, _, rfl, X1, (xv (cj4 E1 E3 X1.get TT)), (xv (cj4 E1 E3 X1.get TT)), hP⟩
  ·refine xf (cj4 E1 E3 E9 hb6) ?_
   refine w_exit ?_
   refine w_sqx ?_
   obtain rfl := some_inj hf5
   refine iq_x rfl fun hr16 => ?_
   obtain rfl := hr16
   refine w_bkx ?_
   exact cw_n ⟨_, WkE.refl _, rfl, X1, (xv (cj3 E1 E3 E9)), hP⟩
 obtain ⟨rfl, X1, E1, hP⟩ := hI
 try dsimp only at h
 refine w_sa (fun e s => Bx σ s i1 39 (ref04_Expr_A0 a0) ∧ e 1 = (.pt i1 0) ∧ e 4 = (.v (.bool ((decide (a0.n = (0 : Int))) && (decide (a0.d = (0 : Int)))))) ∧ Pre σ s) ?_ fun e s hI => ?_
 ·cases hb17 : (decide (a0.n = (0 : Int)))
  ·refine w_x (cj4 E1 X1.get hb17 TT) (k := ?_)
   exact cw_n ⟨_, WkE.refl _, X1, (xv (cj4 E1 X1.get hb17 TT)), (xv (cj4 E1 X1.get hb17 TT)), hP⟩
  ·refine w_x (cj4 E1 X1.get hb17 TT) (k := ?_)
   exact cw_n ⟨_, WkE.refl _, X1, (xv (cj4 E1 X1.get hb17 TT)), (xv (cj4 E1 X1.get hb17 TT)), hP⟩
 obtain ⟨X1, E1, E4, hP⟩ := hI
 refine w_assoc ?_
 refine w_sa (fun e s => Bx σ s i1 39 (ref04_Expr_A0 a0) ∧ e 1 = (.pt i1 0) ∧ e 4 = (.v (.bool ((decide (a0.n = (0 : Int))) && (decide (a0.d = (0 : Int)))))) ∧ e 28 = (.v (.int .i64 a0.kind)) ∧ Pre σ s) ?_ fun e s hI => ?_
 ·refine w_x (cj4 E1 E4 X1.get TT) (k := ?_)
  have q3 := cj4 E1 E4 X1.get TT
  exact cw_n ⟨_, WkE.refl _, X1, (xv q3), (xv q3), (xv q3), hP⟩
 obtain ⟨X1, E1, E4, E28, hP⟩ := hI
 obtain ⟨x18, h19, h⟩ := bnd_some h
 refine w_sa (fun e s => .inr () = x18 ∧ Bx σ s i1 39 (ref04_Expr_A0 a0) ∧ e 1 = (.pt i1 0) ∧ Pre σ s) ?_ fun e s hI => ?_
 ·refine w_block ?_
  refine w_sa (fun e s => Bx σ s i1 39 (ref04_Expr_A0 a0) ∧ e 1 = (.pt i1 0) ∧ e 4 = (.v (.bool ((decide (a0.n = (0 : Int))) && (decide (a0.d = (0 : Int)))))) ∧ e 28 = (.v (.int .i64 a0.kind)) ∧ e 29 = (.v (.bool (decide (a0.kind = (1 : Int))))) ∧ Pre σ s) ?_ fun e s hI => ?_
  ·refine w_x (cj5 E1 E4 E28 X1.get TT) (k := ?_)
   have q4 := cj5 E1 E4 E28 X1.get TT
   exact cw_n ⟨_, WkE.refl _, X1, (xv q4), (xv q4), (xv q4), (xv q4), hP⟩
  obtain ⟨X1, E1, E4, E28, E29, hP⟩ := hI
  rcases ite_some h19 with ⟨hb20, h19⟩ | ⟨hb20, h19⟩
  ·refine xt (cj5 E1 E4 E28 E29 hb20) ?_
   obtain ⟨y21, h22, h19⟩ := bnd_some h19
   refine w_sa (fun e s => e 2 = (.v (.bool ((y21 && (decide (((List.length a0.args : Nat) : Int) = (0 : Int)))) && ((decide (a0.n = (0 : Int))) && (decide (a0.d = (0 : Int))))))) ∧ Pre σ s) ?_ fun e s hI => ?_
   ·cases hb23 : y21
    ·refine w_x (cj7 E1 E4 E28 E29 X1.get hb23 TT) (k := ?_)
     refine EC.wka (.cons (.refl _) .nil) (S_ref03_Right _ _ h22 _ _  ?_)
     refine w_y (cj7 E1 E4 E28 E29 X1.get hb23 TT) (k := ?_)
     exact cw_n ⟨_, WkE.refl _, (xv (cj7 E1 E4 E28 E29 X1.get hb23 TT)), hP⟩
    ·cases hb24 : (decide (((List.length a0.args : Nat) : Int) = (0 : Int)))
     ·refine w_x (cj8 E1 E4 E28 E29 X1.get hb23 hb24 TT) (k := ?_)
      refine EC.wka (.cons (.refl _) .nil) (S_ref03_Right _ _ h22 _ _  ?_)
      refine w_y (cj8 E1 E4 E28 E29 X1.get hb23 hb24 TT) (k := ?_)
      exact cw_n ⟨_, WkE.refl _, (xv (cj8 E1 E4 E28 E29 X1.get hb23 hb24 TT)), hP⟩
     ·refine w_x (cj8 E1 E4 E28 E29 X1.get hb23 hb24 TT) (k := ?_)
      refine EC.wka (.cons (.refl _) .nil) (S_ref03_Right _ _ h22 _ _  ?_)
      refine w_y (cj8 E1 E4 E28 E29 X1.get hb23 hb24 TT) (k := ?_)
      exact cw_n ⟨_, WkE.refl _, (xv (cj8 E1 E4 E28 E29 X1.get hb23 hb24 TT)), hP⟩
   obtain ⟨E2, hP⟩ := hI
   refine w_ret ?_
   refine w_bkr ?_
   obtain rfl := some_inj h19
   refine cw_r ?_
   try dsimp only at h
   obtain rfl := some_inj h
   exact w_fin (fun _ => rfl) (xr (rs := #[.tmp 2]) E2) hP (r' := (.v (.bool ((y21 && (decide (((List.length a0.args : Nat) : Int) = (0 : Int)))) && ((decide (a0.n = (0 : Int))) && (decide (a0.d = (0 : Int)))))))) (.refl _) (.v _) hK
  ·refine xf (cj5 E1 E4 E28 E29 hb20) ?_
   refine w_sa (fun e s => Bx σ s i1 39 (ref04_Expr_A0 a0) ∧ e 1 = (.pt i1 0) ∧ e 4 = (.v (.bool ((decide (a0.n = (0 : Int))) && (decide (a0.d = (0 : Int)))))) ∧ e 43 = (.v (.bool (decide (a0.kind = (2 : Int))))) ∧ Pre σ s) ?_ fun e s hI => ?_
   ·refine w_x (cj6 E1 E4 E28 E29 X1.get TT) (k := ?_)
    have q5 := cj6 E1 E4 E28 E29 X1.get TT
    exact cw_n ⟨_, WkE.refl _, X1, (xv q5), (xv q5), (xv q5), hP⟩
   obtain ⟨X1, E1, E4, E43, hP⟩ := hI
   rcases ite_some h19 with ⟨hb25, h19⟩ | ⟨hb25, h19⟩
   ·refine xt (cj4 E1 E4 E43 hb25) ?_
    obtain ⟨y26, h27, h19⟩ := bnd_some h19
    refine w_sa (fun e s => e 2 = (.v (.bool (((y26 && (decide ((1 : Int) ≤ ((List.length a0.args : Nat) : Int)))) && (decide (((List.length a0.args : Nat) : Int) ≤ (6 : Int)))) && ((decide (a0.n = (0 : Int))) && (decide (a0.d = (0 : Int))))))) ∧ Pre σ s) ?_ fun e s hI => ?_
    ·cases hb28 : y26
     ·refine w_x (cj6 E1 E4 E43 X1.get hb28 TT) (k := ?_)
      refine EC.wka (.cons (.refl _) .nil) (S_ref03_Right _ _ h27 _ _  ?_)
      refine w_y (cj6 E1 E4 E43 X1.get hb28 TT) (k := ?_)
      exact cw_n ⟨_, WkE.refl _, (xv (cj6 E1 E4 E43 X1.get hb28 TT)), hP⟩
     ·cases hb29 : (decide ((1 : Int) ≤ ((List.length a0.args : Nat) : Int)))
      ·refine w_x (cj7 E1 E4 E43 X1.get hb28 hb29 TT) (k := ?_)
       refine EC.wka (.cons (.refl _) .nil) (S_ref03_Right _ _ h27 _ _  ?_)
       refine w_y (cj7 E1 E4 E43 X1.get hb28 hb29 TT) (k := ?_)
       exact cw_n ⟨_, WkE.refl _, (xv (cj7 E1 E4 E43 X1.get hb28 hb29 TT)), hP⟩
      ·cases hb30 : (decide (((List.length a0.args : Nat) : Int) ≤ (6 : Int)))
       ·refine w_x (cj8 E1 E4 E43 X1.get hb28 hb29 hb30 TT) (k := ?_)
        refine EC.wka (.cons (.refl _) .nil) (S_ref03_Right _ _ h27 _ _  ?_)
        refine w_y (cj8 E1 E4 E43 X1.get hb28 hb29 hb30 TT) (k := ?_)
        exact cw_n ⟨_, WkE.refl _, (xv (cj8 E1 E4 E43 X1.get hb28 hb29 hb30 TT)), hP⟩
       ·refine w_x (cj8 E1 E4 E43 X1.get hb28 hb29 hb30 TT) (k := ?_)
        refine EC.wka (.cons (.refl _) .nil) (S_ref03_Right _ _ h27 _ _  ?_)
        refine w_y (cj8 E1 E4 E43 X1.get hb28 hb29 hb30 TT) (k := ?_)
        exact cw_n ⟨_, WkE.refl _, (xv (cj8 E1 E4 E43 X1.get hb28 hb29 hb30 TT)), hP⟩
    obtain ⟨E2, hP⟩ := hI
    refine w_ret ?_
    refine w_bkr ?_
    obtain rfl := some_inj h19
    refine cw_r ?_
    try dsimp only at h
    obtain rfl := some_inj h
    exact w_fin (fun _ => rfl) (xr (rs := #[.tmp 2]) E2) hP (r' := (.v (.bool (((y26 && (decide ((1 : Int) ≤ ((List.length a0.args : Nat) : Int)))) && (decide (((List.length a0.args : Nat) : Int) ≤ (6 : Int)))) && ((decide (a0.n = (0 : Int))) && (decide (a0.d = (0 : Int)))))))) (.refl _) (.v _) hK
   ·refine xf (cj4 E1 E4 E43 hb25) ?_
    refine w_skip ?_
    refine w_bk ?_
    obtain rfl := some_inj h19
    exact cw_n ⟨_, WkE.refl _, rfl, X1, (xv (cj3 E1 E4 E43)), hP⟩
 obtain ⟨rfl, X1, E1, hP⟩ := hI
 try dsimp only at h
 refine w_assoc ?_
 refine w_sa (fun e s => Bx σ s i1 39 (ref04_Expr_A0 a0) ∧ e 1 = (.pt i1 0) ∧ e 81 = (.v (.bool (((!decide (((List.length a0.args : Nat) : Int) = (1 : Int))) || (!decide (a0.name = (⟨#[]⟩ : ByteArray)))) || ((!decide (a0.d = (0 : Int))) && (!decide (a0.kind = (5 : Int))))))) ∧ Pre σ s) ?_ fun e s hI => ?_
 ·cases hb31 : (!decide (((List.length a0.args : Nat) : Int) = (1 : Int)))
  ·cases hb32 : (!decide (a0.name = (⟨#[]⟩ : ByteArray)))
   ·cases hb33 : (!decide (a0.d = (0 : Int)))
    ·refine w_x (cj6 E1 X1.get hb31 hb32 hb33 TT) (k := ?_)
     have q6 := cj6 E1 X1.get hb31 hb32 hb33 TT
     exact cw_n ⟨_, WkE.refl _, X1, (xv q6), (xv q6), hP⟩
    ·refine w_x (cj6 E1 X1.get hb31 hb32 hb33 TT) (k := ?_)
     have q7 := cj6 E1 X1.get hb31 hb32 hb33 TT
     exact cw_n ⟨_, WkE.refl _, X1, (xv q7), (xv q7), hP⟩
   ·refine w_x (cj5 E1 X1.get hb31 hb32 TT) (k := ?_)
    exact cw_n ⟨_, WkE.refl _, X1, (xv (cj5 E1 X1.get hb31 hb32 TT)), (xv (cj5 E1 X1.get hb31 hb32 TT)), hP⟩
  ·refine w_x (cj4 E1 X1.get hb31 TT) (k := ?_)
   exact cw_n ⟨_, WkE.refl _, X1, (xv (cj4 E1 X1.get hb31 TT)), (xv (cj4 E1 X1.get hb31 TT)), hP⟩
 obtain ⟨X1, E1, E81, hP⟩ := hI
 refine w_seq ?_
 rcases ite_some h with ⟨hb34, h⟩ | ⟨hb34, h⟩
 ·refine xt (cj3 E1 E81 hb34) ?_
  refine w_sa (fun e s => e 2 = (.v (.bool false)) ∧ Pre σ s) ?_ fun e s hI => ?_
  ·refine w_x (cj4 E1 E81 X1.get TT) (k := ?_)
   exact cw_n ⟨_, WkE.refl _, (xv (cj4 E1 E81 X1.get TT)), hP⟩
  obtain ⟨E2, hP⟩ := hI
  refine w_ret ?_
  refine w_sqr ?_
  obtain rfl := some_inj h
  exact w_fin (fun _ => rfl) (xr (rs := #[.tmp 2]) E2) hP (r' := (.v (.bool false))) (.refl _) (.v _) hK
 ·refine xf (cj3 E1 E81 hb34) ?_
  refine w_skip ?_
  refine w_sq ?_
  refine w_assoc ?_
  refine w_sa (fun e s => Bx σ s i1 39 (ref04_Expr_A0 a0) ∧ e 1 = (.pt i1 0) ∧ e 83 = (.v (.int .i64 a0.kind)) ∧ Pre σ s) ?_ fun e s hI => ?_
  ·refine w_x (cj4 E1 E81 X1.get TT) (k := ?_)
   exact cw_n ⟨_, WkE.refl _, X1, (xv (cj4 E1 E81 X1.get TT)), (xv (cj4 E1 E81 X1.get TT)), hP⟩
  obtain ⟨X1, E1, E83, hP⟩ := hI
  obtain ⟨x35, h36, h⟩ := bnd_some h
  refine w_sa (fun e s => .inr () = x35 ∧ Bx σ s i1 39 (ref04_Expr_A0 a0) ∧ e 1 = (.pt i1 0) ∧ Pre σ s) ?_ fun e s hI => ?_
  ·refine w_block ?_
   refine w_assoc ?_
   refine w_sa (fun e s => Bx σ s i1 39 (ref04_Expr_A0 a0) ∧ e 1 = (.pt i1 0) ∧ e 83 = (.v (.int .i64 a0.kind)) ∧ e 84 = (.v (.bool (decide (a0.kind = (3 : Int))))) ∧ Pre σ s) ?_ fun e s hI => ?_
   ·refine w_x (cj4 E1 E83 X1.get TT) (k := ?_)
    have q8 := cj4 E1 E83 X1.get TT
    exact cw_n ⟨_, WkE.refl _, X1, (xv q8), (xv q8), (xv q8), hP⟩
   obtain ⟨X1, E1, E83, E84, hP⟩ := hI
   obtain ⟨x37, h38, h36⟩ := bnd_some h36
   refine w_sa (fun e s => ∃ v84_39 : Bool, v84_39 = x37 ∧ Bx σ s i1 39 (ref04_Expr_A0 a0) ∧ e 1 = (.pt i1 0) ∧ e 83 = (.v (.int .i64 a0.kind)) ∧ e 84 = (.v (.bool v84_39)) ∧ Pre σ s) ?_ fun e s hI => ?_
   ·rcases ite_some h38 with ⟨hb40, h38⟩ | ⟨hb40, h38⟩
    ·refine xt (cj4 E1 E83 E84 hb40) ?_
     refine w_skip ?_
     obtain rfl := some_inj h38
     have q9 := cj3 E1 E83 E84
     exact cw_n ⟨_, WkE.refl _, _, rfl, X1, (xv q9), (xv q9), (xv q9), hP⟩
    ·refine xf (cj4 E1 E83 E84 hb40) ?_
     refine w_x (cj5 E1 E83 E84 X1.get TT) (k := ?_)
     obtain rfl := some_inj h38
     have q10 := cj5 E1 E83 E84 X1.get TT
     exact cw_n ⟨_, WkE.refl _, _, rfl, X1, (xv q10), (xv q10), (xv q10), hP⟩
   obtain ⟨v84_39, rfl, X1, E1, E83, E84, hP⟩ := hI
   try dsimp only at h36
   rcases ite_some h36 with ⟨hb41, h36⟩ | ⟨hb41, h36⟩
   ·refine xt (cj4 E1 E83 E84 hb41) ?_
    obtain ⟨y42, h43, h36⟩ := bnd_some h36
    refine w_sa (fun e s => e 2 = (.v (.bool y42)) ∧ Pre σ s) ?_ fun e s hI => ?_
    ·refine w_x (cj5 E1 E83 E84 X1.get TT) (k := ?_)
     refine EC.wka (.cons (.refl _) (.cons (.refl _) (.cons (.refl _) .nil))) (S_ref04_number _ _ _ _ h43 _ _  ?_)
     refine w_y (cj5 E1 E83 E84 X1.get TT) (k := ?_)
     exact cw_n ⟨_, WkE.refl _, (xv (cj5 E1 E83 E84 X1.get TT)), hP⟩
    obtain ⟨E2, hP⟩ := hI
    refine w_ret ?_
    refine w_bkr ?_
    obtain rfl := some_inj h36
    refine cw_r ?_
    try dsimp only at h
    obtain rfl := some_inj h
    exact w_fin (fun _ => rfl) (xr (rs := #[.tmp 2]) E2) hP (r' := (.v (.bool y42))) (.refl _) (.v _) hK
   ·refine xf (cj4 E1 E83 E84 hb41) ?_
    refine w_sa (fun e s => Bx σ s i1 39 (ref04_Expr_A0 a0) ∧ e 1 = (.pt i1 0) ∧ e 83 = (.v (.int .i64 a0.kind)) ∧ e 90 = (.v (.bool (decide (a0.kind = (5 : Int))))) ∧ Pre σ s) ?_ fun e s hI => ?_
    ·refine w_x (cj5 E1 E83 E84 X1.get TT) (k := ?_)
     have q11 := cj5 E1 E83 E84 X1.get TT
     exact cw_n ⟨_, WkE.refl _, X1, (xv q11), (xv q11), (xv q11), hP⟩
    obtain ⟨X1, E1, E83, E90, hP⟩ := hI
    rcases ite_some h36 with ⟨hb44, h36⟩ | ⟨hb44, h36⟩
    ·refine xt (cj4 E1 E83 E90 hb44) ?_
     obtain ⟨y45, h46, h36⟩ := bnd_some h36
     obtain ⟨w49, h50, h36⟩ := bnd_some h36
     refine w_sa (fun e s => e 2 = (.v (.bool (y45 && w49))) ∧ Pre σ s) ?_ fun e s hI => ?_
     ·cases hb51 : y45
      ·replace h50 := ite_f (by simp only [hb51, Bool.or_true, Bool.true_or, Bool.or_false, Bool.false_or, Bool.and_true, Bool.true_and, Bool.and_false, Bool.false_and, Bool.not_true, Bool.not_false, cond_true, cond_false]) h50
       obtain rfl := some_inj h50
       refine w_x (cj6 E1 E83 E90 X1.get hb51 TT) (k := ?_)
       refine EC.wka (.cons (.refl _) (.cons (.refl _) (.cons (.refl _) .nil))) (S_ref04_number _ _ _ _ h46 _ _  ?_)
       refine w_y (cj6 E1 E83 E90 X1.get hb51 TT) (k := ?_)
       exact cw_n ⟨_, WkE.refl _, (xv (cj6 E1 E83 E90 X1.get hb51 TT)), hP⟩
      ·replace h50 := ite_t (by simp only [hb51, Bool.or_true, Bool.true_or, Bool.or_false, Bool.false_or, Bool.and_true, Bool.true_and, Bool.and_false, Bool.false_and, Bool.not_true, Bool.not_false, cond_true, cond_false]) h50
       obtain ⟨y47, h48, h50⟩ := bnd_some h50
       obtain rfl := some_inj h50
       refine w_x (cj6 E1 E83 E90 X1.get hb51 TT) (k := ?_)
       refine EC.wka (.cons (.refl _) (.cons (.refl _) (.cons (.refl _) .nil))) (S_ref04_number _ _ _ _ h46 _ _  ?_)
       refine w_y (cj6 E1 E83 E90 X1.get hb51 TT) (k := ?_)
       refine EC.wka (.cons (.refl _) (.cons (.refl _) (.cons (.refl _) .nil))) (S_ref04_number _ _ _ _ h48 _ _  ?_)
       refine w_y (cj6 E1 E83 E90 X1.get hb51 TT) (k := ?_)
       exact cw_n ⟨_, WkE.refl _, (xv (cj6 E1 E83 E90 X1.get hb51 TT)), hP⟩
     obtain ⟨E2, hP⟩ := hI
     refine w_ret ?_
     refine w_bkr ?_
     obtain rfl := some_inj h36
     refine cw_r ?_
     try dsimp only at h
     obtain rfl := some_inj h
     exact w_fin (fun _ => rfl) (xr (rs := #[.tmp 2]) E2) hP (r' := (.v (.bool (y45 && w49)))) (.refl _) (.v _) hK
    ·refine xf (cj4 E1 E83 E90 hb44) ?_
     refine w_assoc ?_
     refine w_sa (fun e s => Bx σ s i1 39 (ref04_Expr_A0 a0) ∧ e 1 = (.pt i1 0) ∧ e 83 = (.v (.int .i64 a0.kind)) ∧ e 100 = (.v (.bool (decide (a0.kind = (6 : Int))))) ∧ Pre σ s) ?_ fun e s hI => ?_
     ·refine w_x (cj5 E1 E83 E90 X1.get TT) (k := ?_)
      have q12 := cj5 E1 E83 E90 X1.get TT
      exact cw_n ⟨_, WkE.refl _, X1, (xv q12), (xv q12), (xv q12), hP⟩
     obtain ⟨X1, E1, E83, E100, hP⟩ := hI
     obtain ⟨x52, h53, h36⟩ := bnd_some h36
     refine w_sa (fun e s => ∃ v100_54 : Bool, v100_54 = x52 ∧ Bx σ s i1 39 (ref04_Expr_A0 a0) ∧ e 1 = (.pt i1 0) ∧ e 100 = (.v (.bool v100_54)) ∧ Pre σ s) ?_ fun e s hI => ?_
     ·rcases ite_some h53 with ⟨hb55, h53⟩ | ⟨hb55, h53⟩
      ·refine xt (cj4 E1 E83 E100 hb55) ?_
       refine w_skip ?_
       obtain rfl := some_inj h53
       exact cw_n ⟨_, WkE.refl _, _, rfl, X1, (xv (cj3 E1 E83 E100)), (xv (cj3 E1 E83 E100)), hP⟩
      ·refine xf (cj4 E1 E83 E100 hb55) ?_
       refine w_x (cj5 E1 E83 E100 X1.get TT) (k := ?_)
       obtain rfl := some_inj h53
       exact cw_n ⟨_, WkE.refl _, _, rfl, X1, (xv (cj5 E1 E83 E100 X1.get TT)), (xv (cj5 E1 E83 E100 X1.get TT)), hP⟩
     obtain ⟨v100_54, rfl, X1, E1, E100, hP⟩ := hI
     try dsimp only at h36
     rcases ite_some h36 with ⟨hb56, h36⟩ | ⟨hb56, h36⟩
     ·refine xt (cj3 E1 E100 hb56) ?_
      obtain ⟨y57, h58, h36⟩ := bnd_some h36
      refine w_sa (fun e s => e 2 = (.v (.bool y57)) ∧ Pre σ s) ?_ fun e s hI => ?_
      ·refine w_x (cj4 E1 E100 X1.get TT) (k := ?_)
       refine EC.wka (.cons (.refl _) (.cons (.refl _) (.cons (.refl _) .nil))) (S_ref04_number _ _ _ _ h58 _ _  ?_)
       refine w_y (cj4 E1 E100 X1.get TT) (k := ?_)
       exact cw_n ⟨_, WkE.refl _, (xv (cj4 E1 E100 X1.get TT)), hP⟩
      obtain ⟨E2, hP⟩ := hI
      refine w_ret ?_
      refine w_bkr ?_
      obtain rfl := some_inj h36
      refine cw_r ?_
      try dsimp only at h
      obtain rfl := some_inj h
      exact w_fin (fun _ => rfl) (xr (rs := #[.tmp 2]) E2) hP (r' := (.v (.bool y57))) (.refl _) (.v _) hK
     ·refine xf (cj3 E1 E100 hb56) ?_
      refine w_skip ?_
      refine w_bk ?_
      obtain rfl := some_inj h36
      exact cw_n ⟨_, WkE.refl _, rfl, X1, (xv (cj2 E1 E100)), hP⟩
  obtain ⟨rfl, X1, E1, hP⟩ := hI
  try dsimp only at h
  refine w_sa (fun e s => e 2 = (.v (.bool ((decide (a0.kind = (7 : Int))) && (decide (a0.n = (0 : Int)))))) ∧ Pre σ s) ?_ fun e s hI => ?_
  ·cases hb59 : (decide (a0.kind = (7 : Int)))
   ·refine w_x (cj4 E1 X1.get hb59 TT) (k := ?_)
    exact cw_n ⟨_, WkE.refl _, (xv (cj4 E1 X1.get hb59 TT)), hP⟩
   ·refine w_x (cj4 E1 X1.get hb59 TT) (k := ?_)
    exact cw_n ⟨_, WkE.refl _, (xv (cj4 E1 X1.get hb59 TT)), hP⟩
  obtain ⟨E2, hP⟩ := hI
  refine w_ret ?_
  obtain rfl := some_inj h
  exact w_fin (fun _ => rfl) (xr (rs := #[.tmp 2]) E2) hP (r' := (.v (.bool ((decide (a0.kind = (7 : Int))) && (decide (a0.n = (0 : Int))))))) (.refl _) (.v _) hK
noncomputable def ref04_Right_L4 (a0 : Program) (f_ref03_Right : ByteArray → Option Bool) (f_ref04_number : Int → Int → Int → Option Bool) : Int → Option (Int ⊕ (Bool ⊕ Unit))
 | v10_116 =>
  if (decide (v10_116 < ((List.length a0.outputs : Nat) : Int))) then
   ((getI a0.outputs v10_116).bind fun y122 =>
   (f_ref03_Right y122.name).bind fun y125 =>
   (if (!y125) then
    some false
   else
    (f_ref03_Right y122.flow).bind fun y127 =>
    some (!y127)).bind fun w129 =>
   (if ((!y125) || w129) then
    some false
   else
    (f_ref04_number y122.deadline (1 : Int) (1000 : Int)).bind fun y131 =>
    some (!y131)).bind fun w133 =>
   if (((!y125) || w129) || w133) then
    some (.inl false)
   else
    some (.inr ()) : Option (Bool ⊕ Unit)).bind fun x => match x with
   | .inl r => some (.inr (.inl r))
   | .inr _ =>
    some (.inl (IntKind.i64.wrap (v10_116 + (1 : Int))))
  else
   some (.inr (.inr ()))
noncomputable def ref04_Right_L3 (a0 : Program) (f_ref03_Right : ByteArray → Option Bool) (f_ref04_Depth : Expr → Int → Option Int) (f_ref04_Expr : Expr → Option Bool) (f_ref04_Size : Expr → Int → Option Int) : Int → Option (Int ⊕ (Bool ⊕ Unit))
 | v8_85 =>
  if (decide (v8_85 < ((List.length a0.flows : Nat) : Int))) then
   ((getI a0.flows v8_85).bind fun y91 =>
   (f_ref03_Right y91.name).bind fun y94 =>
   (if (!y94) then
    some false
   else
    (f_ref04_Size y91.e (100 : Int)).bind fun y96 =>
    some (decide ((100 : Int) < y96))).bind fun w98 =>
   (if ((!y94) || w98) then
    some false
   else
    (f_ref04_Depth y91.e (30 : Int)).bind fun y100 =>
    some (decide ((20 : Int) < y100))).bind fun w102 =>
   (if (((!y94) || w98) || w102) then
    some false
   else
    (f_ref04_Expr y91.e).bind fun y104 =>
    some (!y104)).bind fun w106 =>
   if ((((!y94) || w98) || w102) || w106) then
    some (.inl false)
   else
    some (.inr ()) : Option (Bool ⊕ Unit)).bind fun x => match x with
   | .inl r => some (.inr (.inl r))
   | .inr _ =>
    some (.inl (IntKind.i64.wrap (v8_85 + (1 : Int))))
  else
   some (.inr (.inr ()))
noncomputable def ref04_Right_L2 (a0 : Program) (f_ref03_Right : ByteArray → Option Bool) (f_ref04_number : Int → Int → Int → Option Bool) : Int → Option (Int ⊕ (Bool ⊕ Unit))
 | v6_59 =>
  if (decide (v6_59 < ((List.length a0.inputs : Nat) : Int))) then
   ((getI a0.inputs v6_59).bind fun y65 =>
   (f_ref03_Right y65.name).bind fun y68 =>
   (if (!y68) then
    some false
   else
    (f_ref04_number y65.period (1 : Int) (1000 : Int)).bind fun y70 =>
    some (!y70)).bind fun w72 =>
   (if ((!y68) || w72) then
    some false
   else
    (f_ref04_number y65.phase (0 : Int) (1000 : Int)).bind fun y74 =>
    some (!y74)).bind fun w76 =>
   if (((!y68) || w72) || w76) then
    some (.inl false)
   else
    some (.inr ()) : Option (Bool ⊕ Unit)).bind fun x => match x with
   | .inl r => some (.inr (.inl r))
   | .inr _ =>
    some (.inl (IntKind.i64.wrap (v6_59 + (1 : Int))))
  else
   some (.inr (.inr ()))
noncomputable def ref04_Right_L1 (y10 : Node) (f_ref03_Right : ByteArray → Option Bool) : Int → Option (Int ⊕ (Bool ⊕ Unit))
 | v5_41 =>
  if (decide (v5_41 < ((List.length y10.params : Nat) : Int))) then
   ((getI y10.params v5_41).bind fun y47 =>
   (f_ref03_Right y47).bind fun y49 =>
   if (!y49) then
    some (.inl false)
   else
    some (.inr ()) : Option (Bool ⊕ Unit)).bind fun x => match x with
   | .inl r => some (.inr (.inl r))
   | .inr _ =>
    some (.inl (IntKind.i64.wrap (v5_41 + (1 : Int))))
  else
   some (.inr (.inr ()))
noncomputable def ref04_Right_L0 (a0 : Program) (f_ref03_Right : ByteArray → Option Bool) (f_ref04_Body : Expr → Option Bool) (f_ref04_Depth : Expr → Int → Option Int) (f_ref04_Size : Expr → Int → Option Int) (f_ref04_number : Int → Int → Int → Option Bool) : Int → Option (Int ⊕ (Bool ⊕ Unit))
 | v3_4 =>
  if (decide (v3_4 < ((List.length a0.nodes : Nat) : Int))) then
   ((getI a0.nodes v3_4).bind fun y10 =>
   (f_ref03_Right y10.name).bind fun y13 =>
   (if (((!y13) || (decide (((List.length y10.params : Nat) : Int) < (1 : Int)))) || (decide ((6 : Int) < ((List.length y10.params : Nat) : Int)))) then
    some false
   else
    (f_ref04_number y10.budget (1 : Int) (1000 : Int)).bind fun y15 =>
    some (!y15)).bind fun w17 =>
   (if ((((!y13) || (decide (((List.length y10.params : Nat) : Int) < (1 : Int)))) || (decide ((6 : Int) < ((List.length y10.params : Nat) : Int)))) || w17) then
    some false
   else
    (f_ref04_Size y10.body (100 : Int)).bind fun y19 =>
    some (decide ((100 : Int) < y19))).bind fun w21 =>
   (if (((((!y13) || (decide (((List.length y10.params : Nat) : Int) < (1 : Int)))) || (decide ((6 : Int) < ((List.length y10.params : Nat) : Int)))) || w17) || w21) then
    some false
   else
    (f_ref04_Depth y10.body (30 : Int)).bind fun y23 =>
    some (decide ((20 : Int) < y23))).bind fun w25 =>
   (if ((((((!y13) || (decide (((List.length y10.params : Nat) : Int) < (1 : Int)))) || (decide ((6 : Int) < ((List.length y10.params : Nat) : Int)))) || w17) || w21) || w25) then
    some false
   else
    (f_ref04_Body y10.body).bind fun y27 =>
    some (!y27)).bind fun w29 =>
   if (((((((!y13) || (decide (((List.length y10.params : Nat) : Int) < (1 : Int)))) || (decide ((6 : Int) < ((List.length y10.params : Nat) : Int)))) || w17) || w21) || w25) || w29) then
    some (.inl false)
   else
    (iterO (ref04_Right_L1 y10 f_ref03_Right) (0 : Int) : Option (Bool ⊕ Unit)).bind fun x => match x with
    | .inl r => some (.inl r)
    | .inr _ =>
     some (.inr ()) : Option (Bool ⊕ Unit)).bind fun x => match x with
   | .inl r => some (.inr (.inl r))
   | .inr _ =>
    some (.inl (IntKind.i64.wrap (v3_4 + (1 : Int))))
  else
   some (.inr (.inr ()))
noncomputable def B_ref04_Right (f_ref03_Right : ByteArray → Option Bool) (f_ref04_number : Int → Int → Int → Option Bool) (f_ref04_Size : Expr → Int → Option Int) (f_ref04_Depth : Expr → Int → Option Int) (f_ref04_Body : Expr → Option Bool) (f_ref04_Expr : Expr → Option Bool) (a0 : Program) : Option Bool :=
 if (decide ((40 : Int) < (IntKind.i64.wrap ((IntKind.i64.wrap ((IntKind.i64.wrap (((List.length a0.nodes : Nat) : Int) + ((List.length a0.inputs : Nat) : Int))) + ((List.length a0.flows : Nat) : Int))) + ((List.length a0.outputs : Nat) : Int))))) then
  some false
 else
  (iterO (ref04_Right_L0 a0 f_ref03_Right f_ref04_Body f_ref04_Depth f_ref04_Size f_ref04_number) (0 : Int) : Option (Bool ⊕ Unit)).bind fun x => match x with
  | .inl r => some r
  | .inr _ =>
   (iterO (ref04_Right_L2 a0 f_ref03_Right f_ref04_number) (0 : Int) : Option (Bool ⊕ Unit)).bind fun x => match x with
   | .inl r => some r
   | .inr _ =>
    (iterO (ref04_Right_L3 a0 f_ref03_Right f_ref04_Depth f_ref04_Expr f_ref04_Size) (0 : Int) : Option (Bool ⊕ Unit)).bind fun x => match x with
    | .inl r => some r
    | .inr _ =>
     (iterO (ref04_Right_L4 a0 f_ref03_Right f_ref04_number) (0 : Int) : Option (Bool ⊕ Unit)).bind fun x => match x with
     | .inl r => some r
     | .inr _ =>
      some true
abbrev ref04_Right_A0 (a0 : Program) : List PV := [(.sl (List.map Node.cl a0.nodes)), (.sl (List.map Input.cl a0.inputs)), (.sl (List.map Flow.cl a0.flows)), (.sl (List.map Output.cl a0.outputs))]
theorem W_ref04_Right (f_ref03_Right : ByteArray → Option Bool) (f_ref04_number : Int → Int → Int → Option Bool) (f_ref04_Size : Expr → Int → Option Int) (f_ref04_Depth : Expr → Int → Option Int) (f_ref04_Body : Expr → Option Bool) (f_ref04_Expr : Expr → Option Bool) (S_ref03_Right : Sat_ref03_Right f_ref03_Right) (S_ref04_number : Sat_ref04_number f_ref04_number) (S_ref04_Size : Sat_ref04_Size f_ref04_Size) (S_ref04_Depth : Sat_ref04_Depth f_ref04_Depth) (S_ref04_Body : Sat_ref04_Body f_ref04_Body) (S_ref04_Expr : Sat_ref04_Expr f_ref04_Expr) : Sat_ref04_Right (B_ref04_Right f_ref03_Right f_ref04_number f_ref04_Size f_ref04_Depth f_ref04_Body f_ref04_Expr) := by
 intro a0 r h σ K hK
 refine w_fp Try.func10 rfl rfl (by kernel_rfl) ?_
 unfold B_ref04_Right at h
 have hP := Pre.refl σ
 have E0 : argE [(.ag (ref04_Right_A0 a0))] 0 = (.ag (ref04_Right_A0 a0)) := rfl
 have TT := cj16 Expr.rlen T_2 T_22 T_23 T_24 T_25 T_27 T_3 T_37 T_39 T_41 T_65 T_9 T_96 T_97 T_99
 refine w_sa (fun e s => ∃ i1 : Nat, Bx σ s i1 27 (ref04_Right_A0 a0) ∧ e 1 = (.pt i1 0) ∧ Pre σ s) ?_ fun e s hI => ?_
 ·refine w_x (cj2 E0 TT) (k := ?_)
  exact cw_n ⟨_, WkE.refl _, σ.length, (Bx.new hP 27 (ref04_Right_A0 a0)), (xv (cj2 E0 TT)), (hP.app _)⟩
 obtain ⟨i1, X1, E1, hP⟩ := hI
 refine w_assoc ?_
 refine w_sa (fun e s => Bx σ s i1 27 (ref04_Right_A0 a0) ∧ e 1 = (.pt i1 0) ∧ e 27 = (.v (.bool (decide ((40 : Int) < (IntKind.i64.wrap ((IntKind.i64.wrap ((IntKind.i64.wrap (((List.length a0.nodes : Nat) : Int) + ((List.length a0.inputs : Nat) : Int))) + ((List.length a0.flows : Nat) : Int))) + ((List.length a0.outputs : Nat) : Int))))))) ∧ Pre σ s) ?_ fun e s hI => ?_
 ·refine w_x (cj3 E1 X1.get TT) (k := ?_)
  exact cw_n ⟨_, WkE.refl _, X1, (xv (cj3 E1 X1.get TT)), (xv (cj3 E1 X1.get TT)), hP⟩
 obtain ⟨X1, E1, E27, hP⟩ := hI
 refine w_seq ?_
 rcases ite_some h with ⟨hb1, h⟩ | ⟨hb1, h⟩
 ·refine xt (cj3 E1 E27 hb1) ?_
  refine w_sa (fun e s => e 2 = (.v (.bool false)) ∧ Pre σ s) ?_ fun e s hI => ?_
  ·refine w_x (cj4 E1 E27 X1.get TT) (k := ?_)
   exact cw_n ⟨_, WkE.refl _, (xv (cj4 E1 E27 X1.get TT)), hP⟩
  obtain ⟨E2, hP⟩ := hI
  refine w_ret ?_
  refine w_sqr ?_
  obtain rfl := some_inj h
  exact w_fin (fun _ => rfl) (xr (rs := #[.tmp 2]) E2) hP (r' := (.v (.bool false))) (.refl _) (.v _) hK
 ·refine xf (cj3 E1 E27 hb1) ?_
  refine w_skip ?_
  refine w_sq ?_
  refine w_assoc ?_
  refine w_sa (fun e s => Bx σ s i1 27 (ref04_Right_A0 a0) ∧ e 1 = (.pt i1 0) ∧ e 3 = (.v (.int .i64 (0 : Int))) ∧ Pre σ s) ?_ fun e s hI => ?_
  ·refine w_x (cj4 E1 E27 X1.get TT) (k := ?_)
   exact cw_n ⟨_, WkE.refl _, X1, (xv (cj4 E1 E27 X1.get TT)), (xv (cj4 E1 E27 X1.get TT)), hP⟩
  obtain ⟨X1, E1, E3, hP⟩ := hI
  obtain ⟨x2, h3, h⟩ := bnd_some h
  refine w_sa (fun e s => .inr () = x2 ∧ Bx σ s i1 27 (ref04_Right_A0 a0) ∧ e 1 = (.pt i1 0) ∧ Pre σ s) ?_ fun e s hI => ?_
  ·refine w_block ?_
   refine w_iter h3 (fun v e s => ∃ v3_4 : Int, v3_4 = v ∧ Bx σ s i1 27 (ref04_Right_A0 a0) ∧ e 1 = (.pt i1 0) ∧ e 3 = (.v (.int .i64 v3_4)) ∧ Pre σ s) ⟨_, WkE.refl _, _, rfl, X1, (xv (cj2 E1 E3)), (xv (cj2 E1 E3)), hP⟩ fun v x5 e s hf6 hI => ?_
   obtain ⟨v3_4, rfl, X1, E1, E3, hP⟩ := hI
   unfold ref04_Right_L0 at hf6
   try dsimp only at hf6
   refine w_assoc ?_
   refine w_sa (fun e s => Bx σ s i1 27 (ref04_Right_A0 a0) ∧ e 1 = (.pt i1 0) ∧ e 3 = (.v (.int .i64 v3_4)) ∧ e 32 = (.v (.bool (decide (v3_4 < ((List.length a0.nodes : Nat) : Int))))) ∧ Pre σ s) ?_ fun e s hI => ?_
   ·refine w_x (cj4 E1 E3 X1.get TT) (k := ?_)
    have q1 := cj4 E1 E3 X1.get TT
    exact cw_n ⟨_, WkE.refl _, X1, (xv q1), (xv q1), (xv q1), hP⟩
   obtain ⟨X1, E1, E3, E32, hP⟩ := hI
   refine w_seq ?_
   rcases ite_some hf6 with ⟨hb7, hf6⟩ | ⟨hb7, hf6⟩
   ·refine xt (cj4 E1 E3 E32 hb7) ?_
    refine w_skip ?_
    refine w_sq ?_
    obtain ⟨x8, h9, hf6⟩ := bnd_some hf6
    refine w_sa (fun e s => .inr () = x8 ∧ Bx σ s i1 27 (ref04_Right_A0 a0) ∧ e 1 = (.pt i1 0) ∧ e 3 = (.v (.int .i64 v3_4)) ∧ Pre σ s) ?_ fun e s hI => ?_
    ·refine w_block ?_
     obtain ⟨y10, h11, h9⟩ := bnd_some h9
     refine w_sa (fun e s => ∃ i4 : Nat, Bx σ s i1 27 (ref04_Right_A0 a0) ∧ Bx σ s i4 99 [(.v (.string y10.name)), (.sl (List.map C_s y10.params)), (.v (.int .i64 y10.budget)), (.v (.int .i64 y10.body.kind)), (.v (.string y10.body.name)), (.v (.int .i64 y10.body.n)), (.v (.int .i64 y10.body.d)), (.sl (Expr.rows y10.body.args)), (.v (.int .i64 y10.body.at_)), (.v (.int .i64 y10.at_))] ∧ e 1 = (.pt i1 0) ∧ e 3 = (.v (.int .i64 v3_4)) ∧ e 4 = (.pt i4 0) ∧ Pre σ s) ?_ fun e s hI => ?_
     ·have R12 : (List.map Node.cl a0.nodes)[(v3_4).toNat]? = some [(.v (.string y10.name)), (.sl (List.map C_s y10.params)), (.v (.int .i64 y10.budget)), (.v (.int .i64 y10.body.kind)), (.v (.string y10.body.name)), (.v (.int .i64 y10.body.n)), (.v (.int .i64 y10.body.d)), (.sl (Expr.rows y10.body.args)), (.v (.int .i64 y10.body.at_)), (.v (.int .i64 y10.at_))] := map_get (getI_some h11).2
      refine w_x (cj9 E1 E3 E32 X1.get X1.any X1.any2 R12 (getI_some h11).1 TT) (k := ?_)
      have q2 := cj9 E1 E3 E32 X1.get X1.any X1.any2 R12 (getI_some h11).1 TT
      exact cw_n ⟨_, WkE.refl _, s.length, (X1.app [some (AObj.box 99 [(.v (.string y10.name)), (.sl (List.map C_s y10.params)), (.v (.int .i64 y10.budget)), (.v (.int .i64 y10.body.kind)), (.v (.string y10.body.name)), (.v (.int .i64 y10.body.n)), (.v (.int .i64 y10.body.d)), (.sl (Expr.rows y10.body.args)), (.v (.int .i64 y10.body.at_)), (.v (.int .i64 y10.at_))])]), (Bx.new hP 99 [(.v (.string y10.name)), (.sl (List.map C_s y10.params)), (.v (.int .i64 y10.budget)), (.v (.int .i64 y10.body.kind)), (.v (.string y10.body.name)), (.v (.int .i64 y10.body.n)), (.v (.int .i64 y10.body.d)), (.sl (Expr.rows y10.body.args)), (.v (.int .i64 y10.body.at_)), (.v (.int .i64 y10.at_))]), (xv q2), (xv q2), (xv q2), (hP.app _)⟩
     obtain ⟨i4, X1, X4, E1, E3, E4, hP⟩ := hI
     refine w_assoc ?_
     obtain ⟨y13, h14, h9⟩ := bnd_some h9
     obtain ⟨w17, h18, h9⟩ := bnd_some h9
     obtain ⟨w21, h22, h9⟩ := bnd_some h9
     obtain ⟨w25, h26, h9⟩ := bnd_some h9
     obtain ⟨w29, h30, h9⟩ := bnd_some h9
     refine w_sa (fun e s => Bx σ s i1 27 (ref04_Right_A0 a0) ∧ Bx σ s i4 99 [(.v (.string y10.name)), (.sl (List.map C_s y10.params)), (.v (.int .i64 y10.budget)), (.v (.int .i64 y10.body.kind)), (.v (.string y10.body.name)), (.v (.int .i64 y10.body.n)), (.v (.int .i64 y10.body.d)), (.sl (Expr.rows y10.body.args)), (.v (.int .i64 y10.body.at_)), (.v (.int .i64 y10.at_))] ∧ e 1 = (.pt i1 0) ∧ e 3 = (.v (.int .i64 v3_4)) ∧ e 4 = (.pt i4 0) ∧ e 79 = (.v (.bool (((((((!y13) || (decide (((List.length y10.params : Nat) : Int) < (1 : Int)))) || (decide ((6 : Int) < ((List.length y10.params : Nat) : Int)))) || w17) || w21) || w25) || w29))) ∧ Pre σ s) ?_ fun e s hI => ?_
     ·cases hb31 : (!y13)
      ·cases hb32 : (decide (((List.length y10.params : Nat) : Int) < (1 : Int)))
       ·cases hb33 : (decide ((6 : Int) < ((List.length y10.params : Nat) : Int)))
        ·replace h18 := ite_f (by simp only [hb31, hb32, hb33, Bool.or_true, Bool.true_or, Bool.or_false, Bool.false_or, Bool.and_true, Bool.true_and, Bool.and_false, Bool.false_and, Bool.not_true, Bool.not_false, cond_true, cond_false]) h18
         obtain ⟨y15, h16, h18⟩ := bnd_some h18
         obtain rfl := some_inj h18
         cases hb34 : (!y15)
         ·replace h22 := ite_f (by simp only [hb31, hb32, hb33, hb34, Bool.or_true, Bool.true_or, Bool.or_false, Bool.false_or, Bool.and_true, Bool.true_and, Bool.and_false, Bool.false_and, Bool.not_true, Bool.not_false, cond_true, cond_false]) h22
          obtain ⟨y19, h20, h22⟩ := bnd_some h22
          obtain rfl := some_inj h22
          cases hb35 : (decide ((100 : Int) < y19))
          ·replace h26 := ite_f (by simp only [hb31, hb32, hb33, hb34, hb35, Bool.or_true, Bool.true_or, Bool.or_false, Bool.false_or, Bool.and_true, Bool.true_and, Bool.and_false, Bool.false_and, Bool.not_true, Bool.not_false, cond_true, cond_false]) h26
           obtain ⟨y23, h24, h26⟩ := bnd_some h26
           obtain rfl := some_inj h26
           cases hb36 : (decide ((20 : Int) < y23))
           ·replace h30 := ite_f (by simp only [hb31, hb32, hb33, hb34, hb35, hb36, Bool.or_true, Bool.true_or, Bool.or_false, Bool.false_or, Bool.and_true, Bool.true_and, Bool.and_false, Bool.false_and, Bool.not_true, Bool.not_false, cond_true, cond_false]) h30
            obtain ⟨y27, h28, h30⟩ := bnd_some h30
            obtain rfl := some_inj h30
            refine w_x (cj12 E1 E3 E4 X1.get X4.get hb31 hb32 hb33 hb34 hb35 hb36 TT) (k := ?_)
            refine EC.wka (.cons (.refl _) .nil) (S_ref03_Right _ _ h14 _ _  ?_)
            refine w_y (cj12 E1 E3 E4 X1.get X4.get hb31 hb32 hb33 hb34 hb35 hb36 TT) (k := ?_)
            refine EC.wka (.cons (.refl _) (.cons (.refl _) (.cons (.refl _) .nil))) (S_ref04_number _ _ _ _ h16 _ _  ?_)
            refine w_y (cj12 E1 E3 E4 X1.get X4.get hb31 hb32 hb33 hb34 hb35 hb36 TT) (k := ?_)
            refine EC.wka (.cons (.refl _) (.cons (.refl _) .nil)) (S_ref04_Size _ _ _ h20 _ _  ?_)
            refine w_y (cj12 E1 E3 E4 X1.get X4.get hb31 hb32 hb33 hb34 hb35 hb36 TT) (k := ?_)
            refine EC.wka (.cons (.refl _) (.cons (.refl _) .nil)) (S_ref04_Depth _ _ _ h24 _ _  ?_)
            refine w_y (cj12 E1 E3 E4 X1.get X4.get hb31 hb32 hb33 hb34 hb35 hb36 TT) (k := ?_)
            refine EC.wka (.cons (.refl _) .nil) (S_ref04_Body _ _ h28 _ _  ?_)
            refine w_y (cj12 E1 E3 E4 X1.get X4.get hb31 hb32 hb33 hb34 hb35 hb36 TT) (k := ?_)
            have q3 := cj12 E1 E3 E4 X1.get X4.get hb31 hb32 hb33 hb34 hb35 hb36 TT
            exact cw_n ⟨_, WkE.refl _, X1, X4, (xv q3), (xv q3), (xv q3), (xv q3), hP⟩
           ·replace h30 := ite_t (by simp only [hb31, hb32, hb33, hb34, hb35, hb36, Bool.or_true, Bool.true_or, Bool.or_false, Bool.false_or, Bool.and_true, Bool.true_and, Bool.and_false, Bool.false_and, Bool.not_true, Bool.not_false, cond_true, cond_false]) h30
            obtain rfl := some_inj h30
            refine w_x (cj12 E1 E3 E4 X1.get X4.get hb31 hb32 hb33 hb34 hb35 hb36 TT) (k := ?_)
            refine EC.wka (.cons (.refl _) .nil) (S_ref03_Right _ _ h14 _ _  ?_)
            refine w_y (cj12 E1 E3 E4 X1.get X4.get hb31 hb32 hb33 hb34 hb35 hb36 TT) (k := ?_)
            refine EC.wka (.cons (.refl _) (.cons (.refl _) (.cons (.refl _) .nil))) (S_ref04_number _ _ _ _ h16 _ _  ?_)
            refine w_y (cj12 E1 E3 E4 X1.get X4.get hb31 hb32 hb33 hb34 hb35 hb36 TT) (k := ?_)
            refine EC.wka (.cons (.refl _) (.cons (.refl _) .nil)) (S_ref04_Size _ _ _ h20 _ _  ?_)
            refine w_y (cj12 E1 E3 E4 X1.get X4.get hb31 hb32 hb33 hb34 hb35 hb36 TT) (k := ?_)
            refine EC.wka (.cons (.refl _) (.cons (.refl _) .nil)) (S_ref04_Depth _ _ _ h24 _ _  ?_)
            refine w_y (cj12 E1 E3 E4 X1.get X4.get hb31 hb32 hb33 hb34 hb35 hb36 TT) (k := ?_)
            have q4 := cj12 E1 E3 E4 X1.get X4.get hb31 hb32 hb33 hb34 hb35 hb36 TT
            exact cw_n ⟨_, WkE.refl _, X1, X4, (xv q4), (xv q4), (xv q4), (xv q4), hP⟩
          ·replace h26 := ite_t (by simp only [hb31, hb32, hb33, hb34, hb35, Bool.or_true, Bool.true_or, Bool.or_false, Bool.false_or, Bool.and_true, Bool.true_and, Bool.and_false, Bool.false_and, Bool.not_true, Bool.not_false, cond_true, cond_false]) h26
           obtain rfl := some_inj h26
           replace h30 := ite_t (by simp only [hb31, hb32, hb33, hb34, hb35, Bool.or_true, Bool.true_or, Bool.or_false, Bool.false_or, Bool.and_true, Bool.true_and, Bool.and_false, Bool.false_and, Bool.not_true, Bool.not_false, cond_true, cond_false]) h30
           obtain rfl := some_inj h30
           refine w_x (cj11 E1 E3 E4 X1.get X4.get hb31 hb32 hb33 hb34 hb35 TT) (k := ?_)
           refine EC.wka (.cons (.refl _) .nil) (S_ref03_Right _ _ h14 _ _  ?_)
           refine w_y (cj11 E1 E3 E4 X1.get X4.get hb31 hb32 hb33 hb34 hb35 TT) (k := ?_)
           refine EC.wka (.cons (.refl _) (.cons (.refl _) (.cons (.refl _) .nil))) (S_ref04_number _ _ _ _ h16 _ _  ?_)
           refine w_y (cj11 E1 E3 E4 X1.get X4.get hb31 hb32 hb33 hb34 hb35 TT) (k := ?_)
           refine EC.wka (.cons (.refl _) (.cons (.refl _) .nil)) (S_ref04_Size _ _ _ h20 _ _  ?_)
           refine w_y (cj11 E1 E3 E4 X1.get X4.get hb31 hb32 hb33 hb34 hb35 TT) (k := ?_)
           have q5 := cj11 E1 E3 E4 X1.get X4.get hb31 hb32 hb33 hb34 hb35 TT
           exact cw_n ⟨_, WkE.refl _, X1, X4, (xv q5), (xv q5), (xv q5), (xv q5), hP⟩
         ·replace h22 := ite_t (by simp only [hb31, hb32, hb33, hb34, Bool.or_true, Bool.true_or, Bool.or_false, Bool.false_or, Bool.and_true, Bool.true_and, Bool.and_false, Bool.false_and, Bool.not_true, Bool.not_false, cond_true, cond_false]) h22
          obtain rfl := some_inj h22
          replace h26 := ite_t (by simp only [hb31, hb32, hb33, hb34, Bool.or_true, Bool.true_or, Bool.or_false, Bool.false_or, Bool.and_true, Bool.true_and, Bool.and_false, Bool.false_and, Bool.not_true, Bool.not_false, cond_true, cond_false]) h26
          obtain rfl := some_inj h26
          replace h30 := ite_t (by simp only [hb31, hb32, hb33, hb34, Bool.or_true, Bool.true_or, Bool.or_false, Bool.false_or, Bool.and_true, Bool.true_and, Bool.and_false, Bool.false_and, Bool.not_true, Bool.not_false, cond_true, cond_false]) h30
          obtain rfl := some_inj h30
          refine w_x (cj10 E1 E3 E4 X1.get X4.get hb31 hb32 hb33 hb34 TT) (k := ?_)
          refine EC.wka (.cons (.refl _) .nil) (S_ref03_Right _ _ h14 _ _  ?_)
          refine w_y (cj10 E1 E3 E4 X1.get X4.get hb31 hb32 hb33 hb34 TT) (k := ?_)
          refine EC.wka (.cons (.refl _) (.cons (.refl _) (.cons (.refl _) .nil))) (S_ref04_number _ _ _ _ h16 _ _  ?_)
          refine w_y (cj10 E1 E3 E4 X1.get X4.get hb31 hb32 hb33 hb34 TT) (k := ?_)
          have q6 := cj10 E1 E3 E4 X1.get X4.get hb31 hb32 hb33 hb34 TT
          exact cw_n ⟨_, WkE.refl _, X1, X4, (xv q6), (xv q6), (xv q6), (xv q6), hP⟩
        ·replace h18 := ite_t (by simp only [hb31, hb32, hb33, Bool.or_true, Bool.true_or, Bool.or_false, Bool.false_or, Bool.and_true, Bool.true_and, Bool.and_false, Bool.false_and, Bool.not_true, Bool.not_false, cond_true, cond_false]) h18
         obtain rfl := some_inj h18
         replace h22 := ite_t (by simp only [hb31, hb32, hb33, Bool.or_true, Bool.true_or, Bool.or_false, Bool.false_or, Bool.and_true, Bool.true_and, Bool.and_false, Bool.false_and, Bool.not_true, Bool.not_false, cond_true, cond_false]) h22
         obtain rfl := some_inj h22
         replace h26 := ite_t (by simp only [hb31, hb32, hb33, Bool.or_true, Bool.true_or, Bool.or_false, Bool.false_or, Bool.and_true, Bool.true_and, Bool.and_false, Bool.false_and, Bool.not_true, Bool.not_false, cond_true, cond_false]) h26
         obtain rfl := some_inj h26
         replace h30 := ite_t (by simp only [hb31, hb32, hb33, Bool.or_true, Bool.true_or, Bool.or_false, Bool.false_or, Bool.and_true, Bool.true_and, Bool.and_false, Bool.false_and, Bool.not_true, Bool.not_false, cond_true, cond_false]) h30
         obtain rfl := some_inj h30
         refine w_x (cj9 E1 E3 E4 X1.get X4.get hb31 hb32 hb33 TT) (k := ?_)
         refine EC.wka (.cons (.refl _) .nil) (S_ref03_Right _ _ h14 _ _  ?_)
         refine w_y (cj9 E1 E3 E4 X1.get X4.get hb31 hb32 hb33 TT) (k := ?_)
         have q7 := cj9 E1 E3 E4 X1.get X4.get hb31 hb32 hb33 TT
         exact cw_n ⟨_, WkE.refl _, X1, X4, (xv q7), (xv q7), (xv q7), (xv q7), hP⟩
       ·replace h18 := ite_t (by simp only [hb31, hb32, Bool.or_true, Bool.true_or, Bool.or_false, Bool.false_or, Bool.and_true, Bool.true_and, Bool.and_false, Bool.false_and, Bool.not_true, Bool.not_false, cond_true, cond_false]) h18
        obtain rfl := some_inj h18
        replace h22 := ite_t (by simp only [hb31, hb32, Bool.or_true, Bool.true_or, Bool.or_false, Bool.false_or, Bool.and_true, Bool.true_and, Bool.and_false, Bool.false_and, Bool.not_true, Bool.not_false, cond_true, cond_false]) h22
        obtain rfl := some_inj h22
        replace h26 := ite_t (by simp only [hb31, hb32, Bool.or_true, Bool.true_or, Bool.or_false, Bool.false_or, Bool.and_true, Bool.true_and, Bool.and_false, Bool.false_and, Bool.not_true, Bool.not_false, cond_true, cond_false]) h26
        obtain rfl := some_inj h26
        replace h30 := ite_t (by simp only [hb31, hb32, Bool.or_true, Bool.true_or, Bool.or_false, Bool.false_or, Bool.and_true, Bool.true_and, Bool.and_false, Bool.false_and, Bool.not_true, Bool.not_false, cond_true, cond_false]) h30
        obtain rfl := some_inj h30
        refine w_x (cj8 E1 E3 E4 X1.get X4.get hb31 hb32 TT) (k := ?_)
        refine EC.wka (.cons (.refl _) .nil) (S_ref03_Right _ _ h14 _ _  ?_)
        refine w_y (cj8 E1 E3 E4 X1.get X4.get hb31 hb32 TT) (k := ?_)
        have q8 := cj8 E1 E3 E4 X1.get X4.get hb31 hb32 TT
        exact cw_n ⟨_, WkE.refl _, X1, X4, (xv q8), (xv q8), (xv q8), (xv q8), hP⟩
      ·replace h18 := ite_t (by simp only [hb31, Bool.or_true, Bool.true_or, Bool.or_false, Bool.false_or, Bool.and_true, Bool.true_and, Bool.and_false, Bool.false_and, Bool.not_true, Bool.not_false, cond_true, cond_false]) h18
       obtain rfl := some_inj h18
       replace h22 := ite_t (by simp only [hb31, Bool.or_true, Bool.true_or, Bool.or_false, Bool.false_or, Bool.and_true, Bool.true_and, Bool.and_false, Bool.false_and, Bool.not_true, Bool.not_false, cond_true, cond_false]) h22
       obtain rfl := some_inj h22
       replace h26 := ite_t (by simp only [hb31, Bool.or_true, Bool.true_or, Bool.or_false, Bool.false_or, Bool.and_true, Bool.true_and, Bool.and_false, Bool.false_and, Bool.not_true, Bool.not_false, cond_true, cond_false]) h26
       obtain rfl := some_inj h26
       replace h30 := ite_t (by simp only [hb31, Bool.or_true, Bool.true_or, Bool.or_false, Bool.false_or, Bool.and_true, Bool.true_and, Bool.and_false, Bool.false_and, Bool.not_true, Bool.not_false, cond_true, cond_false]) h30
       obtain rfl := some_inj h30
       refine w_x (cj7 E1 E3 E4 X1.get X4.get hb31 TT) (k := ?_)
       refine EC.wka (.cons (.refl _) .nil) (S_ref03_Right _ _ h14 _ _  ?_)
       refine w_y (cj7 E1 E3 E4 X1.get X4.get hb31 TT) (k := ?_)
       have q9 := cj7 E1 E3 E4 X1.get X4.get hb31 TT
       exact cw_n ⟨_, WkE.refl _, X1, X4, (xv q9), (xv q9), (xv q9), (xv q9), hP⟩
     obtain ⟨X1, X4, E1, E3, E4, E79, hP⟩ := hI
     refine w_seq ?_
     rcases ite_some h9 with ⟨hb37, h9⟩ | ⟨hb37, h9⟩
     ·refine xt (cj5 E1 E3 E4 E79 hb37) ?_
      refine w_sa (fun e s => e 2 = (.v (.bool false)) ∧ Pre σ s) ?_ fun e s hI => ?_
      ·refine w_x (cj7 E1 E3 E4 E79 X1.get X4.get TT) (k := ?_)
       exact cw_n ⟨_, WkE.refl _, (xv (cj7 E1 E3 E4 E79 X1.get X4.get TT)), hP⟩
      obtain ⟨E2, hP⟩ := hI
      refine w_ret ?_
      refine w_sqr ?_
      refine w_bkr ?_
      obtain rfl := some_inj h9
      refine cw_r ?_
      try dsimp only at hf6
      obtain rfl := some_inj hf6
      refine iq_r rfl fun hr38 => ?_
      obtain rfl := hr38
      refine w_bkr ?_
      refine cw_r ?_
      try dsimp only at h
      obtain rfl := some_inj h
      exact w_fin (fun _ => rfl) (xr (rs := #[.tmp 2]) E2) hP (r' := (.v (.bool false))) (.refl _) (.v _) hK
     ·refine xf (cj5 E1 E3 E4 E79 hb37) ?_
      refine w_skip ?_
      refine w_sq ?_
      refine w_sa (fun e s => Bx σ s i1 27 (ref04_Right_A0 a0) ∧ Bx σ s i4 99 [(.v (.string y10.name)), (.sl (List.map C_s y10.params)), (.v (.int .i64 y10.budget)), (.v (.int .i64 y10.body.kind)), (.v (.string y10.body.name)), (.v (.int .i64 y10.body.n)), (.v (.int .i64 y10.body.d)), (.sl (Expr.rows y10.body.args)), (.v (.int .i64 y10.body.at_)), (.v (.int .i64 y10.at_))] ∧ e 1 = (.pt i1 0) ∧ e 3 = (.v (.int .i64 v3_4)) ∧ e 4 = (.pt i4 0) ∧ e 5 = (.v (.int .i64 (0 : Int))) ∧ Pre σ s) ?_ fun e s hI => ?_
      ·refine w_x (cj7 E1 E3 E4 E79 X1.get X4.get TT) (k := ?_)
       have q10 := cj7 E1 E3 E4 E79 X1.get X4.get TT
       exact cw_n ⟨_, WkE.refl _, X1, X4, (xv q10), (xv q10), (xv q10), (xv q10), hP⟩
      obtain ⟨X1, X4, E1, E3, E4, E5, hP⟩ := hI
      obtain ⟨x39, h40, h9⟩ := bnd_some h9
      refine w_an (fun e s => .inr () = x39 ∧ Bx σ s i1 27 (ref04_Right_A0 a0) ∧ e 1 = (.pt i1 0) ∧ e 3 = (.v (.int .i64 v3_4)) ∧ Pre σ s) ?_ fun e s hI => ?_
      ·refine w_block ?_
       have q11 := cj4 E1 E3 E4 E5
       refine w_iter h40 (fun v e s => ∃ v5_41 : Int, v5_41 = v ∧ Bx σ s i1 27 (ref04_Right_A0 a0) ∧ Bx σ s i4 99 [(.v (.string y10.name)), (.sl (List.map C_s y10.params)), (.v (.int .i64 y10.budget)), (.v (.int .i64 y10.body.kind)), (.v (.string y10.body.name)), (.v (.int .i64 y10.body.n)), (.v (.int .i64 y10.body.d)), (.sl (Expr.rows y10.body.args)), (.v (.int .i64 y10.body.at_)), (.v (.int .i64 y10.at_))] ∧ e 1 = (.pt i1 0) ∧ e 3 = (.v (.int .i64 v3_4)) ∧ e 4 = (.pt i4 0) ∧ e 5 = (.v (.int .i64 v5_41)) ∧ Pre σ s) ⟨_, WkE.refl _, _, rfl, X1, X4, (xv q11), (xv q11), (xv q11), (xv q11), hP⟩ fun v x42 e s hf43 hI => ?_
       obtain ⟨v5_41, rfl, X1, X4, E1, E3, E4, E5, hP⟩ := hI
       unfold ref04_Right_L1 at hf43
       try dsimp only at hf43
       refine w_assoc ?_
       refine w_sa (fun e s => Bx σ s i1 27 (ref04_Right_A0 a0) ∧ Bx σ s i4 99 [(.v (.string y10.name)), (.sl (List.map C_s y10.params)), (.v (.int .i64 y10.budget)), (.v (.int .i64 y10.body.kind)), (.v (.string y10.body.name)), (.v (.int .i64 y10.body.n)), (.v (.int .i64 y10.body.d)), (.sl (Expr.rows y10.body.args)), (.v (.int .i64 y10.body.at_)), (.v (.int .i64 y10.at_))] ∧ e 1 = (.pt i1 0) ∧ e 3 = (.v (.int .i64 v3_4)) ∧ e 4 = (.pt i4 0) ∧ e 5 = (.v (.int .i64 v5_41)) ∧ e 84 = (.v (.bool (decide (v5_41 < ((List.length y10.params : Nat) : Int))))) ∧ Pre σ s) ?_ fun e s hI => ?_
       ·refine w_x (cj7 E1 E3 E4 E5 X1.get X4.get TT) (k := ?_)
        have q12 := cj7 E1 E3 E4 E5 X1.get X4.get TT
        exact cw_n ⟨_, WkE.refl _, X1, X4, (xv q12), (xv q12), (xv q12), (xv q12), (xv q12), hP⟩
       obtain ⟨X1, X4, E1, E3, E4, E5, E84, hP⟩ := hI
       refine w_seq ?_
       rcases ite_some hf43 with ⟨hb44, hf43⟩ | ⟨hb44, hf43⟩
       ·refine xt (cj6 E1 E3 E4 E5 E84 hb44) ?_
        refine w_skip ?_
        refine w_sq ?_
        obtain ⟨x45, h46, hf43⟩ := bnd_some hf43
        refine w_sa (fun e s => .inr () = x45 ∧ Bx σ s i1 27 (ref04_Right_A0 a0) ∧ Bx σ s i4 99 [(.v (.string y10.name)), (.sl (List.map C_s y10.params)), (.v (.int .i64 y10.budget)), (.v (.int .i64 y10.body.kind)), (.v (.string y10.body.name)), (.v (.int .i64 y10.body.n)), (.v (.int .i64 y10.body.d)), (.sl (Expr.rows y10.body.args)), (.v (.int .i64 y10.body.at_)), (.v (.int .i64 y10.at_))] ∧ e 1 = (.pt i1 0) ∧ e 3 = (.v (.int .i64 v3_4)) ∧ e 4 = (.pt i4 0) ∧ e 5 = (.v (.int .i64 v5_41)) ∧ Pre σ s) ?_ fun e s hI => ?_
        ·refine w_block ?_
         obtain ⟨y47, h48, h46⟩ := bnd_some h46
         obtain ⟨y49, h50, h46⟩ := bnd_some h46
         refine w_sa (fun e s => Bx σ s i1 27 (ref04_Right_A0 a0) ∧ Bx σ s i4 99 [(.v (.string y10.name)), (.sl (List.map C_s y10.params)), (.v (.int .i64 y10.budget)), (.v (.int .i64 y10.body.kind)), (.v (.string y10.body.name)), (.v (.int .i64 y10.body.n)), (.v (.int .i64 y10.body.d)), (.sl (Expr.rows y10.body.args)), (.v (.int .i64 y10.body.at_)), (.v (.int .i64 y10.at_))] ∧ e 1 = (.pt i1 0) ∧ e 3 = (.v (.int .i64 v3_4)) ∧ e 4 = (.pt i4 0) ∧ e 5 = (.v (.int .i64 v5_41)) ∧ e 93 = (.v (.bool (!y49))) ∧ Pre σ s) ?_ fun e s hI => ?_
         ·have R51 : (List.map C_s y10.params)[(v5_41).toNat]? = some [(.v (.string y47))] := map_get (getI_some h48).2
          refine w_x (cj10 E1 E3 E4 E5 E84 X1.get X4.get R51 (getI_some h48).1 TT) (k := ?_)
          refine EC.wka (.cons (.refl _) .nil) (S_ref03_Right _ _ h50 _ _  ?_)
          refine w_y (cj10 E1 E3 E4 E5 E84 X1.get X4.get R51 (getI_some h48).1 TT) (k := ?_)
          have q13 := cj10 E1 E3 E4 E5 E84 X1.get X4.get R51 (getI_some h48).1 TT
          exact cw_n ⟨_, WkE.refl _, X1, X4, (xv q13), (xv q13), (xv q13), (xv q13), (xv q13), hP⟩
         obtain ⟨X1, X4, E1, E3, E4, E5, E93, hP⟩ := hI
         rcases ite_some h46 with ⟨hb52, h46⟩ | ⟨hb52, h46⟩
         ·refine xt (cj6 E1 E3 E4 E5 E93 hb52) ?_
          refine w_sa (fun e s => e 2 = (.v (.bool false)) ∧ Pre σ s) ?_ fun e s hI => ?_
          ·refine w_x (cj8 E1 E3 E4 E5 E93 X1.get X4.get TT) (k := ?_)
           exact cw_n ⟨_, WkE.refl _, (xv (cj8 E1 E3 E4 E5 E93 X1.get X4.get TT)), hP⟩
          obtain ⟨E2, hP⟩ := hI
          refine w_ret ?_
          refine w_bkr ?_
          obtain rfl := some_inj h46
          refine cw_r ?_
          try dsimp only at hf43
          obtain rfl := some_inj hf43
          refine iq_r rfl fun hr53 => ?_
          obtain rfl := hr53
          refine w_bkr ?_
          refine ct_r ?_
          try dsimp only at h9
          refine w_bkr ?_
          obtain rfl := some_inj h9
          refine cw_r ?_
          try dsimp only at hf6
          obtain rfl := some_inj hf6
          refine iq_r rfl fun hr54 => ?_
          obtain rfl := hr54
          refine w_bkr ?_
          refine cw_r ?_
          try dsimp only at h
          obtain rfl := some_inj h
          exact w_fin (fun _ => rfl) (xr (rs := #[.tmp 2]) E2) hP (r' := (.v (.bool false))) (.refl _) (.v _) hK
         ·refine xf (cj6 E1 E3 E4 E5 E93 hb52) ?_
          refine w_skip ?_
          refine w_bk ?_
          obtain rfl := some_inj h46
          have q14 := cj5 E1 E3 E4 E5 E93
          exact cw_n ⟨_, WkE.refl _, rfl, X1, X4, (xv q14), (xv q14), (xv q14), (xv q14), hP⟩
        obtain ⟨rfl, X1, X4, E1, E3, E4, E5, hP⟩ := hI
        try dsimp only at hf43
        refine w_x (cj7 E1 E3 E4 E5 X1.get X4.get TT) (k := ?_)
        obtain rfl := some_inj hf43
        have q15 := cj7 E1 E3 E4 E5 X1.get X4.get TT
        exact iq_n rfl ⟨_, WkE.refl _, _, rfl, X1, X4, (xv q15), (xv q15), (xv q15), (xv q15), hP⟩
       ·refine xf (cj6 E1 E3 E4 E5 E84 hb44) ?_
        refine w_exit ?_
        refine w_sqx ?_
        obtain rfl := some_inj hf43
        refine iq_x rfl fun hr55 => ?_
        obtain rfl := hr55
        refine w_bkx ?_
        exact ct_n ⟨rfl, X1, (xv (cj5 E1 E3 E4 E5 E84)), (xv (cj5 E1 E3 E4 E5 E84)), hP⟩
      obtain ⟨rfl, X1, E1, E3, hP⟩ := hI
      try dsimp only at h9
      refine w_bk ?_
      obtain rfl := some_inj h9
      exact cw_n ⟨_, WkE.refl _, rfl, X1, (xv (cj2 E1 E3)), (xv (cj2 E1 E3)), hP⟩
    obtain ⟨rfl, X1, E1, E3, hP⟩ := hI
    try dsimp only at hf6
    refine w_x (cj4 E1 E3 X1.get TT) (k := ?_)
    obtain rfl := some_inj hf6
    exact iq_n rfl ⟨_, WkE.refl _, _, rfl, X1, (xv (cj4 E1 E3 X1.get TT)), (xv (cj4 E1 E3 X1.get TT)), hP⟩
   ·refine xf (cj4 E1 E3 E32 hb7) ?_
    refine w_exit ?_
    refine w_sqx ?_
    obtain rfl := some_inj hf6
    refine iq_x rfl fun hr56 => ?_
    obtain rfl := hr56
    refine w_bkx ?_
    exact cw_n ⟨_, WkE.refl _, rfl, X1, (xv (cj3 E1 E3 E32)), hP⟩
  obtain ⟨rfl, X1, E1, hP⟩ := hI
  try dsimp only at h
  refine w_assoc ?_
  refine w_sa (fun e s => Bx σ s i1 27 (ref04_Right_A0 a0) ∧ e 1 = (.pt i1 0) ∧ e 6 = (.v (.int .i64 (0 : Int))) ∧ Pre σ s) ?_ fun e s hI => ?_
  ·refine w_x (cj3 E1 X1.get TT) (k := ?_)
   exact cw_n ⟨_, WkE.refl _, X1, (xv (cj3 E1 X1.get TT)), (xv (cj3 E1 X1.get TT)), hP⟩
  obtain ⟨X1, E1, E6, hP⟩ := hI
  obtain ⟨x57, h58, h⟩ := bnd_some h
  refine w_sa (fun e s => .inr () = x57 ∧ Bx σ s i1 27 (ref04_Right_A0 a0) ∧ e 1 = (.pt i1 0) ∧ Pre σ s) ?_ fun e s hI => ?_
  ·refine w_block ?_
   refine w_iter h58 (fun v e s => ∃ v6_59 : Int, v6_59 = v ∧ Bx σ s i1 27 (ref04_Right_A0 a0) ∧ e 1 = (.pt i1 0) ∧ e 6 = (.v (.int .i64 v6_59)) ∧ Pre σ s) ⟨_, WkE.refl _, _, rfl, X1, (xv (cj2 E1 E6)), (xv (cj2 E1 E6)), hP⟩ fun v x60 e s hf61 hI => ?_
   obtain ⟨v6_59, rfl, X1, E1, E6, hP⟩ := hI
   unfold ref04_Right_L2 at hf61
   try dsimp only at hf61
   refine w_assoc ?_
   refine w_sa (fun e s => Bx σ s i1 27 (ref04_Right_A0 a0) ∧ e 1 = (.pt i1 0) ∧ e 6 = (.v (.int .i64 v6_59)) ∧ e 98 = (.v (.bool (decide (v6_59 < ((List.length a0.inputs : Nat) : Int))))) ∧ Pre σ s) ?_ fun e s hI => ?_
   ·refine w_x (cj4 E1 E6 X1.get TT) (k := ?_)
    have q16 := cj4 E1 E6 X1.get TT
    exact cw_n ⟨_, WkE.refl _, X1, (xv q16), (xv q16), (xv q16), hP⟩
   obtain ⟨X1, E1, E6, E98, hP⟩ := hI
   refine w_seq ?_
   rcases ite_some hf61 with ⟨hb62, hf61⟩ | ⟨hb62, hf61⟩
   ·refine xt (cj4 E1 E6 E98 hb62) ?_
    refine w_skip ?_
    refine w_sq ?_
    obtain ⟨x63, h64, hf61⟩ := bnd_some hf61
    refine w_sa (fun e s => .inr () = x63 ∧ Bx σ s i1 27 (ref04_Right_A0 a0) ∧ e 1 = (.pt i1 0) ∧ e 6 = (.v (.int .i64 v6_59)) ∧ Pre σ s) ?_ fun e s hI => ?_
    ·refine w_block ?_
     obtain ⟨y65, h66, h64⟩ := bnd_some h64
     refine w_sa (fun e s => ∃ i7 : Nat, Bx σ s i1 27 (ref04_Right_A0 a0) ∧ Bx σ s i7 96 [(.v (.string y65.name)), (.v (.int .i64 y65.period)), (.v (.int .i64 y65.phase)), (.v (.int .i64 y65.at_))] ∧ e 1 = (.pt i1 0) ∧ e 6 = (.v (.int .i64 v6_59)) ∧ e 7 = (.pt i7 0) ∧ Pre σ s) ?_ fun e s hI => ?_
     ·have R67 : (List.map Input.cl a0.inputs)[(v6_59).toNat]? = some [(.v (.string y65.name)), (.v (.int .i64 y65.period)), (.v (.int .i64 y65.phase)), (.v (.int .i64 y65.at_))] := map_get (getI_some h66).2
      refine w_x (cj9 E1 E6 E98 X1.get X1.any X1.any2 R67 (getI_some h66).1 TT) (k := ?_)
      have q17 := cj9 E1 E6 E98 X1.get X1.any X1.any2 R67 (getI_some h66).1 TT
      exact cw_n ⟨_, WkE.refl _, s.length, (X1.app [some (AObj.box 96 [(.v (.string y65.name)), (.v (.int .i64 y65.period)), (.v (.int .i64 y65.phase)), (.v (.int .i64 y65.at_))])]), (Bx.new hP 96 [(.v (.string y65.name)), (.v (.int .i64 y65.period)), (.v (.int .i64 y65.phase)), (.v (.int .i64 y65.at_))]), (xv q17), (xv q17), (xv q17), (hP.app _)⟩
     obtain ⟨i7, X1, X7, E1, E6, E7, hP⟩ := hI
     obtain ⟨y68, h69, h64⟩ := bnd_some h64
     obtain ⟨w72, h73, h64⟩ := bnd_some h64
     obtain ⟨w76, h77, h64⟩ := bnd_some h64
     refine w_sa (fun e s => Bx σ s i1 27 (ref04_Right_A0 a0) ∧ e 1 = (.pt i1 0) ∧ e 6 = (.v (.int .i64 v6_59)) ∧ e 121 = (.v (.bool (((!y68) || w72) || w76))) ∧ Pre σ s) ?_ fun e s hI => ?_
     ·cases hb78 : (!y68)
      ·replace h73 := ite_f (by simp only [hb78, Bool.or_true, Bool.true_or, Bool.or_false, Bool.false_or, Bool.and_true, Bool.true_and, Bool.and_false, Bool.false_and, Bool.not_true, Bool.not_false, cond_true, cond_false]) h73
       obtain ⟨y70, h71, h73⟩ := bnd_some h73
       obtain rfl := some_inj h73
       cases hb79 : (!y70)
       ·replace h77 := ite_f (by simp only [hb78, hb79, Bool.or_true, Bool.true_or, Bool.or_false, Bool.false_or, Bool.and_true, Bool.true_and, Bool.and_false, Bool.false_and, Bool.not_true, Bool.not_false, cond_true, cond_false]) h77
        obtain ⟨y74, h75, h77⟩ := bnd_some h77
        obtain rfl := some_inj h77
        refine w_x (cj8 E1 E6 E7 X1.get X7.get hb78 hb79 TT) (k := ?_)
        refine EC.wka (.cons (.refl _) .nil) (S_ref03_Right _ _ h69 _ _  ?_)
        refine w_y (cj8 E1 E6 E7 X1.get X7.get hb78 hb79 TT) (k := ?_)
        refine EC.wka (.cons (.refl _) (.cons (.refl _) (.cons (.refl _) .nil))) (S_ref04_number _ _ _ _ h71 _ _  ?_)
        refine w_y (cj8 E1 E6 E7 X1.get X7.get hb78 hb79 TT) (k := ?_)
        refine EC.wka (.cons (.refl _) (.cons (.refl _) (.cons (.refl _) .nil))) (S_ref04_number _ _ _ _ h75 _ _  ?_)
        refine w_y (cj8 E1 E6 E7 X1.get X7.get hb78 hb79 TT) (k := ?_)
        have q18 := cj8 E1 E6 E7 X1.get X7.get hb78 hb79 TT
        exact cw_n ⟨_, WkE.refl _, X1, (xv q18), (xv q18), (xv q18), hP⟩
       ·replace h77 := ite_t (by simp only [hb78, hb79, Bool.or_true, Bool.true_or, Bool.or_false, Bool.false_or, Bool.and_true, Bool.true_and, Bool.and_false, Bool.false_and, Bool.not_true, Bool.not_false, cond_true, cond_false]) h77
        obtain rfl := some_inj h77
        refine w_x (cj8 E1 E6 E7 X1.get X7.get hb78 hb79 TT) (k := ?_)
        refine EC.wka (.cons (.refl _) .nil) (S_ref03_Right _ _ h69 _ _  ?_)
        refine w_y (cj8 E1 E6 E7 X1.get X7.get hb78 hb79 TT) (k := ?_)
        refine EC.wka (.cons (.refl _) (.cons (.refl _) (.cons (.refl _) .nil))) (S_ref04_number _ _ _ _ h71 _ _  ?_)
        refine w_y (cj8 E1 E6 E7 X1.get X7.get hb78 hb79 TT) (k := ?_)
        have q19 := cj8 E1 E6 E7 X1.get X7.get hb78 hb79 TT
        exact cw_n ⟨_, WkE.refl _, X1, (xv q19), (xv q19), (xv q19), hP⟩
      ·replace h73 := ite_t (by simp only [hb78, Bool.or_true, Bool.true_or, Bool.or_false, Bool.false_or, Bool.and_true, Bool.true_and, Bool.and_false, Bool.false_and, Bool.not_true, Bool.not_false, cond_true, cond_false]) h73
       obtain rfl := some_inj h73
       replace h77 := ite_t (by simp only [hb78, Bool.or_true, Bool.true_or, Bool.or_false, Bool.false_or, Bool.and_true, Bool.true_and, Bool.and_false, Bool.false_and, Bool.not_true, Bool.not_false, cond_true, cond_false]) h77
       obtain rfl := some_inj h77
       refine w_x (cj7 E1 E6 E7 X1.get X7.get hb78 TT) (k := ?_)
       refine EC.wka (.cons (.refl _) .nil) (S_ref03_Right _ _ h69 _ _  ?_)
       refine w_y (cj7 E1 E6 E7 X1.get X7.get hb78 TT) (k := ?_)
       have q20 := cj7 E1 E6 E7 X1.get X7.get hb78 TT
       exact cw_n ⟨_, WkE.refl _, X1, (xv q20), (xv q20), (xv q20), hP⟩
     obtain ⟨X1, E1, E6, E121, hP⟩ := hI
     rcases ite_some h64 with ⟨hb80, h64⟩ | ⟨hb80, h64⟩
     ·refine xt (cj4 E1 E6 E121 hb80) ?_
      refine w_sa (fun e s => e 2 = (.v (.bool false)) ∧ Pre σ s) ?_ fun e s hI => ?_
      ·refine w_x (cj5 E1 E6 E121 X1.get TT) (k := ?_)
       exact cw_n ⟨_, WkE.refl _, (xv (cj5 E1 E6 E121 X1.get TT)), hP⟩
      obtain ⟨E2, hP⟩ := hI
      refine w_ret ?_
      refine w_bkr ?_
      obtain rfl := some_inj h64
      refine cw_r ?_
      try dsimp only at hf61
      obtain rfl := some_inj hf61
      refine iq_r rfl fun hr81 => ?_
      obtain rfl := hr81
      refine w_bkr ?_
      refine cw_r ?_
      try dsimp only at h
      obtain rfl := some_inj h
      exact w_fin (fun _ => rfl) (xr (rs := #[.tmp 2]) E2) hP (r' := (.v (.bool false))) (.refl _) (.v _) hK
     ·refine xf (cj4 E1 E6 E121 hb80) ?_
      refine w_skip ?_
      refine w_bk ?_
      obtain rfl := some_inj h64
      exact cw_n ⟨_, WkE.refl _, rfl, X1, (xv (cj3 E1 E6 E121)), (xv (cj3 E1 E6 E121)), hP⟩
    obtain ⟨rfl, X1, E1, E6, hP⟩ := hI
    try dsimp only at hf61
    refine w_x (cj4 E1 E6 X1.get TT) (k := ?_)
    obtain rfl := some_inj hf61
    exact iq_n rfl ⟨_, WkE.refl _, _, rfl, X1, (xv (cj4 E1 E6 X1.get TT)), (xv (cj4 E1 E6 X1.get TT)), hP⟩
   ·refine xf (cj4 E1 E6 E98 hb62) ?_
    refine w_exit ?_
    refine w_sqx ?_
    obtain rfl := some_inj hf61
    refine iq_x rfl fun hr82 => ?_
    obtain rfl := hr82
    refine w_bkx ?_
    exact cw_n ⟨_, WkE.refl _, rfl, X1, (xv (cj3 E1 E6 E98)), hP⟩
  obtain ⟨rfl, X1, E1, hP⟩ := hI
  try dsimp only at h
  refine w_assoc ?_
  refine w_sa (fun e s => Bx σ s i1 27 (ref04_Right_A0 a0) ∧ e 1 = (.pt i1 0) ∧ e 8 = (.v (.int .i64 (0 : Int))) ∧ Pre σ s) ?_ fun e s hI => ?_
  ·refine w_x (cj3 E1 X1.get TT) (k := ?_)
   exact cw_n ⟨_, WkE.refl _, X1, (xv (cj3 E1 X1.get TT)), (xv (cj3 E1 X1.get TT)), hP⟩
  obtain ⟨X1, E1, E8, hP⟩ := hI
  obtain ⟨x83, h84, h⟩ := bnd_some h
  refine w_sa (fun e s => .inr () = x83 ∧ Bx σ s i1 27 (ref04_Right_A0 a0) ∧ e 1 = (.pt i1 0) ∧ Pre σ s) ?_ fun e s hI => ?_
  ·refine w_block ?_
   refine w_iter h84 (fun v e s => ∃ v8_85 : Int, v8_85 = v ∧ Bx σ s i1 27 (ref04_Right_A0 a0) ∧ e 1 = (.pt i1 0) ∧ e 8 = (.v (.int .i64 v8_85)) ∧ Pre σ s) ⟨_, WkE.refl _, _, rfl, X1, (xv (cj2 E1 E8)), (xv (cj2 E1 E8)), hP⟩ fun v x86 e s hf87 hI => ?_
   obtain ⟨v8_85, rfl, X1, E1, E8, hP⟩ := hI
   unfold ref04_Right_L3 at hf87
   try dsimp only at hf87
   refine w_assoc ?_
   refine w_sa (fun e s => Bx σ s i1 27 (ref04_Right_A0 a0) ∧ e 1 = (.pt i1 0) ∧ e 8 = (.v (.int .i64 v8_85)) ∧ e 126 = (.v (.bool (decide (v8_85 < ((List.length a0.flows : Nat) : Int))))) ∧ Pre σ s) ?_ fun e s hI => ?_
   ·refine w_x (cj4 E1 E8 X1.get TT) (k := ?_)
    have q21 := cj4 E1 E8 X1.get TT
    exact cw_n ⟨_, WkE.refl _, X1, (xv q21), (xv q21), (xv q21), hP⟩
   obtain ⟨X1, E1, E8, E126, hP⟩ := hI
   refine w_seq ?_
   rcases ite_some hf87 with ⟨hb88, hf87⟩ | ⟨hb88, hf87⟩
   ·refine xt (cj4 E1 E8 E126 hb88) ?_
    refine w_skip ?_
    refine w_sq ?_
    obtain ⟨x89, h90, hf87⟩ := bnd_some hf87
    refine w_sa (fun e s => .inr () = x89 ∧ Bx σ s i1 27 (ref04_Right_A0 a0) ∧ e 1 = (.pt i1 0) ∧ e 8 = (.v (.int .i64 v8_85)) ∧ Pre σ s) ?_ fun e s hI => ?_
    ·refine w_block ?_
     obtain ⟨y91, h92, h90⟩ := bnd_some h90
     refine w_sa (fun e s => ∃ i9 : Nat, Bx σ s i1 27 (ref04_Right_A0 a0) ∧ Bx σ s i9 41 [(.v (.string y91.name)), (.v (.int .i64 y91.e.kind)), (.v (.string y91.e.name)), (.v (.int .i64 y91.e.n)), (.v (.int .i64 y91.e.d)), (.sl (Expr.rows y91.e.args)), (.v (.int .i64 y91.e.at_)), (.v (.int .i64 y91.at_))] ∧ e 1 = (.pt i1 0) ∧ e 8 = (.v (.int .i64 v8_85)) ∧ e 9 = (.pt i9 0) ∧ Pre σ s) ?_ fun e s hI => ?_
     ·have R93 : (List.map Flow.cl a0.flows)[(v8_85).toNat]? = some [(.v (.string y91.name)), (.v (.int .i64 y91.e.kind)), (.v (.string y91.e.name)), (.v (.int .i64 y91.e.n)), (.v (.int .i64 y91.e.d)), (.sl (Expr.rows y91.e.args)), (.v (.int .i64 y91.e.at_)), (.v (.int .i64 y91.at_))] := map_get (getI_some h92).2
      refine w_x (cj9 E1 E8 E126 X1.get X1.any X1.any2 R93 (getI_some h92).1 TT) (k := ?_)
      have q22 := cj9 E1 E8 E126 X1.get X1.any X1.any2 R93 (getI_some h92).1 TT
      exact cw_n ⟨_, WkE.refl _, s.length, (X1.app [some (AObj.box 41 [(.v (.string y91.name)), (.v (.int .i64 y91.e.kind)), (.v (.string y91.e.name)), (.v (.int .i64 y91.e.n)), (.v (.int .i64 y91.e.d)), (.sl (Expr.rows y91.e.args)), (.v (.int .i64 y91.e.at_)), (.v (.int .i64 y91.at_))])]), (Bx.new hP 41 [(.v (.string y91.name)), (.v (.int .i64 y91.e.kind)), (.v (.string y91.e.name)), (.v (.int .i64 y91.e.n)), (.v (.int .i64 y91.e.d)), (.sl (Expr.rows y91.e.args)), (.v (.int .i64 y91.e.at_)), (.v (.int .i64 y91.at_))]), (xv q22), (xv q22), (xv q22), (hP.app _)⟩
     obtain ⟨i9, X1, X9, E1, E8, E9, hP⟩ := hI
     obtain ⟨y94, h95, h90⟩ := bnd_some h90
     obtain ⟨w98, h99, h90⟩ := bnd_some h90
     obtain ⟨w102, h103, h90⟩ := bnd_some h90
     obtain ⟨w106, h107, h90⟩ := bnd_some h90
     refine w_sa (fun e s => Bx σ s i1 27 (ref04_Right_A0 a0) ∧ e 1 = (.pt i1 0) ∧ e 8 = (.v (.int .i64 v8_85)) ∧ e 155 = (.v (.bool ((((!y94) || w98) || w102) || w106))) ∧ Pre σ s) ?_ fun e s hI => ?_
     ·cases hb108 : (!y94)
      ·replace h99 := ite_f (by simp only [hb108, Bool.or_true, Bool.true_or, Bool.or_false, Bool.false_or, Bool.and_true, Bool.true_and, Bool.and_false, Bool.false_and, Bool.not_true, Bool.not_false, cond_true, cond_false]) h99
       obtain ⟨y96, h97, h99⟩ := bnd_some h99
       obtain rfl := some_inj h99
       cases hb109 : (decide ((100 : Int) < y96))
       ·replace h103 := ite_f (by simp only [hb108, hb109, Bool.or_true, Bool.true_or, Bool.or_false, Bool.false_or, Bool.and_true, Bool.true_and, Bool.and_false, Bool.false_and, Bool.not_true, Bool.not_false, cond_true, cond_false]) h103
        obtain ⟨y100, h101, h103⟩ := bnd_some h103
        obtain rfl := some_inj h103
        cases hb110 : (decide ((20 : Int) < y100))
        ·replace h107 := ite_f (by simp only [hb108, hb109, hb110, Bool.or_true, Bool.true_or, Bool.or_false, Bool.false_or, Bool.and_true, Bool.true_and, Bool.and_false, Bool.false_and, Bool.not_true, Bool.not_false, cond_true, cond_false]) h107
         obtain ⟨y104, h105, h107⟩ := bnd_some h107
         obtain rfl := some_inj h107
         refine w_x (cj9 E1 E8 E9 X1.get X9.get hb108 hb109 hb110 TT) (k := ?_)
         refine EC.wka (.cons (.refl _) .nil) (S_ref03_Right _ _ h95 _ _  ?_)
         refine w_y (cj9 E1 E8 E9 X1.get X9.get hb108 hb109 hb110 TT) (k := ?_)
         refine EC.wka (.cons (.refl _) (.cons (.refl _) .nil)) (S_ref04_Size _ _ _ h97 _ _  ?_)
         refine w_y (cj9 E1 E8 E9 X1.get X9.get hb108 hb109 hb110 TT) (k := ?_)
         refine EC.wka (.cons (.refl _) (.cons (.refl _) .nil)) (S_ref04_Depth _ _ _ h101 _ _  ?_)
         refine w_y (cj9 E1 E8 E9 X1.get X9.get hb108 hb109 hb110 TT) (k := ?_)
         refine EC.wka (.cons (.refl _) .nil) (S_ref04_Expr _ _ h105 _ _  ?_)
         refine w_y (cj9 E1 E8 E9 X1.get X9.get hb108 hb109 hb110 TT) (k := ?_)
         have q23 := cj9 E1 E8 E9 X1.get X9.get hb108 hb109 hb110 TT
         exact cw_n ⟨_, WkE.refl _, X1, (xv q23), (xv q23), (xv q23), hP⟩
        ·replace h107 := ite_t (by simp only [hb108, hb109, hb110, Bool.or_true, Bool.true_or, Bool.or_false, Bool.false_or, Bool.and_true, Bool.true_and, Bool.and_false, Bool.false_and, Bool.not_true, Bool.not_false, cond_true, cond_false]) h107
         obtain rfl := some_inj h107
         refine w_x (cj9 E1 E8 E9 X1.get X9.get hb108 hb109 hb110 TT) (k := ?_)
         refine EC.wka (.cons (.refl _) .nil) (S_ref03_Right _ _ h95 _ _  ?_)
         refine w_y (cj9 E1 E8 E9 X1.get X9.get hb108 hb109 hb110 TT) (k := ?_)
         refine EC.wka (.cons (.refl _) (.cons (.refl _) .nil)) (S_ref04_Size _ _ _ h97 _ _  ?_)
         refine w_y (cj9 E1 E8 E9 X1.get X9.get hb108 hb109 hb110 TT) (k := ?_)
         refine EC.wka (.cons (.refl _) (.cons (.refl _) .nil)) (S_ref04_Depth _ _ _ h101 _ _  ?_)
         refine w_y (cj9 E1 E8 E9 X1.get X9.get hb108 hb109 hb110 TT) (k := ?_)
         have q24 := cj9 E1 E8 E9 X1.get X9.get hb108 hb109 hb110 TT
         exact cw_n ⟨_, WkE.refl _, X1, (xv q24), (xv q24), (xv q24), hP⟩
       ·replace h103 := ite_t (by simp only [hb108, hb109, Bool.or_true, Bool.true_or, Bool.or_false, Bool.false_or, Bool.and_true, Bool.true_and, Bool.and_false, Bool.false_and, Bool.not_true, Bool.not_false, cond_true, cond_false]) h103
        obtain rfl := some_inj h103
        replace h107 := ite_t (by simp only [hb108, hb109, Bool.or_true, Bool.true_or, Bool.or_false, Bool.false_or, Bool.and_true, Bool.true_and, Bool.and_false, Bool.false_and, Bool.not_true, Bool.not_false, cond_true, cond_false]) h107
        obtain rfl := some_inj h107
        refine w_x (cj8 E1 E8 E9 X1.get X9.get hb108 hb109 TT) (k := ?_)
        refine EC.wka (.cons (.refl _) .nil) (S_ref03_Right _ _ h95 _ _  ?_)
        refine w_y (cj8 E1 E8 E9 X1.get X9.get hb108 hb109 TT) (k := ?_)
        refine EC.wka (.cons (.refl _) (.cons (.refl _) .nil)) (S_ref04_Size _ _ _ h97 _ _  ?_)
        refine w_y (cj8 E1 E8 E9 X1.get X9.get hb108 hb109 TT) (k := ?_)
        have q25 := cj8 E1 E8 E9 X1.get X9.get hb108 hb109 TT
        exact cw_n ⟨_, WkE.refl _, X1, (xv q25), (xv q25), (xv q25), hP⟩
      ·replace h99 := ite_t (by simp only [hb108, Bool.or_true, Bool.true_or, Bool.or_false, Bool.false_or, Bool.and_true, Bool.true_and, Bool.and_false, Bool.false_and, Bool.not_true, Bool.not_false, cond_true, cond_false]) h99
       obtain rfl := some_inj h99
       replace h103 := ite_t (by simp only [hb108, Bool.or_true, Bool.true_or, Bool.or_false, Bool.false_or, Bool.and_true, Bool.true_and, Bool.and_false, Bool.false_and, Bool.not_true, Bool.not_false, cond_true, cond_false]) h103
       obtain rfl := some_inj h103
       replace h107 := ite_t (by simp only [hb108, Bool.or_true, Bool.true_or, Bool.or_false, Bool.false_or, Bool.and_true, Bool.true_and, Bool.and_false, Bool.false_and, Bool.not_true, Bool.not_false, cond_true, cond_false]) h107
       obtain rfl := some_inj h107
       refine w_x (cj7 E1 E8 E9 X1.get X9.get hb108 TT) (k := ?_)
       refine EC.wka (.cons (.refl _) .nil) (S_ref03_Right _ _ h95 _ _  ?_)
       refine w_y (cj7 E1 E8 E9 X1.get X9.get hb108 TT) (k := ?_)
       have q26 := cj7 E1 E8 E9 X1.get X9.get hb108 TT
       exact cw_n ⟨_, WkE.refl _, X1, (xv q26), (xv q26), (xv q26), hP⟩
     obtain ⟨X1, E1, E8, E155, hP⟩ := hI
     rcases ite_some h90 with ⟨hb111, h90⟩ | ⟨hb111, h90⟩
     ·refine xt (cj4 E1 E8 E155 hb111) ?_
      refine w_sa (fun e s => e 2 = (.v (.bool false)) ∧ Pre σ s) ?_ fun e s hI => ?_
      ·refine w_x (cj5 E1 E8 E155 X1.get TT) (k := ?_)
       exact cw_n ⟨_, WkE.refl _, (xv (cj5 E1 E8 E155 X1.get TT)), hP⟩
      obtain ⟨E2, hP⟩ := hI
      refine w_ret ?_
      refine w_bkr ?_
      obtain rfl := some_inj h90
      refine cw_r ?_
      try dsimp only at hf87
      obtain rfl := some_inj hf87
      refine iq_r rfl fun hr112 => ?_
      obtain rfl := hr112
      refine w_bkr ?_
      refine cw_r ?_
      try dsimp only at h
      obtain rfl := some_inj h
      exact w_fin (fun _ => rfl) (xr (rs := #[.tmp 2]) E2) hP (r' := (.v (.bool false))) (.refl _) (.v _) hK
     ·refine xf (cj4 E1 E8 E155 hb111) ?_
      refine w_skip ?_
      refine w_bk ?_
      obtain rfl := some_inj h90
      exact cw_n ⟨_, WkE.refl _, rfl, X1, (xv (cj3 E1 E8 E155)), (xv (cj3 E1 E8 E155)), hP⟩
    obtain ⟨rfl, X1, E1, E8, hP⟩ := hI
    try dsimp only at hf87
    refine w_x (cj4 E1 E8 X1.get TT) (k := ?_)
    obtain rfl := some_inj hf87
    exact iq_n rfl ⟨_, WkE.refl _, _, rfl, X1, (xv (cj4 E1 E8 X1.get TT)), (xv (cj4 E1 E8 X1.get TT)), hP⟩
   ·refine xf (cj4 E1 E8 E126 hb88) ?_
    refine w_exit ?_
    refine w_sqx ?_
    obtain rfl := some_inj hf87
    refine iq_x rfl fun hr113 => ?_
    obtain rfl := hr113
    refine w_bkx ?_
    exact cw_n ⟨_, WkE.refl _, rfl, X1, (xv (cj3 E1 E8 E126)), hP⟩
  obtain ⟨rfl, X1, E1, hP⟩ := hI
  try dsimp only at h
  refine w_assoc ?_
  refine w_sa (fun e s => Bx σ s i1 27 (ref04_Right_A0 a0) ∧ e 1 = (.pt i1 0) ∧ e 10 = (.v (.int .i64 (0 : Int))) ∧ Pre σ s) ?_ fun e s hI => ?_
  ·refine w_x (cj3 E1 X1.get TT) (k := ?_)
   exact cw_n ⟨_, WkE.refl _, X1, (xv (cj3 E1 X1.get TT)), (xv (cj3 E1 X1.get TT)), hP⟩
  obtain ⟨X1, E1, E10, hP⟩ := hI
  obtain ⟨x114, h115, h⟩ := bnd_some h
  refine w_sa (fun e s => .inr () = x114 ∧ Pre σ s) ?_ fun e s hI => ?_
  ·refine w_block ?_
   refine w_iter h115 (fun v e s => ∃ v10_116 : Int, v10_116 = v ∧ Bx σ s i1 27 (ref04_Right_A0 a0) ∧ e 1 = (.pt i1 0) ∧ e 10 = (.v (.int .i64 v10_116)) ∧ Pre σ s) ⟨_, WkE.refl _, _, rfl, X1, (xv (cj2 E1 E10)), (xv (cj2 E1 E10)), hP⟩ fun v x117 e s hf118 hI => ?_
   obtain ⟨v10_116, rfl, X1, E1, E10, hP⟩ := hI
   unfold ref04_Right_L4 at hf118
   try dsimp only at hf118
   refine w_assoc ?_
   refine w_sa (fun e s => Bx σ s i1 27 (ref04_Right_A0 a0) ∧ e 1 = (.pt i1 0) ∧ e 10 = (.v (.int .i64 v10_116)) ∧ e 160 = (.v (.bool (decide (v10_116 < ((List.length a0.outputs : Nat) : Int))))) ∧ Pre σ s) ?_ fun e s hI => ?_
   ·refine w_x (cj4 E1 E10 X1.get TT) (k := ?_)
    have q27 := cj4 E1 E10 X1.get TT
    exact cw_n ⟨_, WkE.refl _, X1, (xv q27), (xv q27), (xv q27), hP⟩
   obtain ⟨X1, E1, E10, E160, hP⟩ := hI
   refine w_seq ?_
   rcases ite_some hf118 with ⟨hb119, hf118⟩ | ⟨hb119, hf118⟩
   ·refine xt (cj4 E1 E10 E160 hb119) ?_
    refine w_skip ?_
    refine w_sq ?_
    obtain ⟨x120, h121, hf118⟩ := bnd_some hf118
    refine w_sa (fun e s => .inr () = x120 ∧ Bx σ s i1 27 (ref04_Right_A0 a0) ∧ e 1 = (.pt i1 0) ∧ e 10 = (.v (.int .i64 v10_116)) ∧ Pre σ s) ?_ fun e s hI => ?_
    ·refine w_block ?_
     obtain ⟨y122, h123, h121⟩ := bnd_some h121
     refine w_sa (fun e s => ∃ i11 : Nat, Bx σ s i1 27 (ref04_Right_A0 a0) ∧ Bx σ s i11 65 [(.v (.string y122.name)), (.v (.string y122.flow)), (.v (.int .i64 y122.deadline)), (.v (.int .i64 y122.at_))] ∧ e 1 = (.pt i1 0) ∧ e 10 = (.v (.int .i64 v10_116)) ∧ e 11 = (.pt i11 0) ∧ Pre σ s) ?_ fun e s hI => ?_
     ·have R124 : (List.map Output.cl a0.outputs)[(v10_116).toNat]? = some [(.v (.string y122.name)), (.v (.string y122.flow)), (.v (.int .i64 y122.deadline)), (.v (.int .i64 y122.at_))] := map_get (getI_some h123).2
      refine w_x (cj9 E1 E10 E160 X1.get X1.any X1.any2 R124 (getI_some h123).1 TT) (k := ?_)
      have q28 := cj9 E1 E10 E160 X1.get X1.any X1.any2 R124 (getI_some h123).1 TT
      exact cw_n ⟨_, WkE.refl _, s.length, (X1.app [some (AObj.box 65 [(.v (.string y122.name)), (.v (.string y122.flow)), (.v (.int .i64 y122.deadline)), (.v (.int .i64 y122.at_))])]), (Bx.new hP 65 [(.v (.string y122.name)), (.v (.string y122.flow)), (.v (.int .i64 y122.deadline)), (.v (.int .i64 y122.at_))]), (xv q28), (xv q28), (xv q28), (hP.app _)⟩
     obtain ⟨i11, X1, X11, E1, E10, E11, hP⟩ := hI
     obtain ⟨y125, h126, h121⟩ := bnd_some h121
     obtain ⟨w129, h130, h121⟩ := bnd_some h121
     obtain ⟨w133, h134, h121⟩ := bnd_some h121
     refine w_sa (fun e s => Bx σ s i1 27 (ref04_Right_A0 a0) ∧ e 1 = (.pt i1 0) ∧ e 10 = (.v (.int .i64 v10_116)) ∧ e 183 = (.v (.bool (((!y125) || w129) || w133))) ∧ Pre σ s) ?_ fun e s hI => ?_
     ·cases hb135 : (!y125)
      ·replace h130 := ite_f (by simp only [hb135, Bool.or_true, Bool.true_or, Bool.or_false, Bool.false_or, Bool.and_true, Bool.true_and, Bool.and_false, Bool.false_and, Bool.not_true, Bool.not_false, cond_true, cond_false]) h130
       obtain ⟨y127, h128, h130⟩ := bnd_some h130
       obtain rfl := some_inj h130
       cases hb136 : (!y127)
       ·replace h134 := ite_f (by simp only [hb135, hb136, Bool.or_true, Bool.true_or, Bool.or_false, Bool.false_or, Bool.and_true, Bool.true_and, Bool.and_false, Bool.false_and, Bool.not_true, Bool.not_false, cond_true, cond_false]) h134
        obtain ⟨y131, h132, h134⟩ := bnd_some h134
        obtain rfl := some_inj h134
        refine w_x (cj8 E1 E10 E11 X1.get X11.get hb135 hb136 TT) (k := ?_)
        refine EC.wka (.cons (.refl _) .nil) (S_ref03_Right _ _ h126 _ _  ?_)
        refine w_y (cj8 E1 E10 E11 X1.get X11.get hb135 hb136 TT) (k := ?_)
        refine EC.wka (.cons (.refl _) .nil) (S_ref03_Right _ _ h128 _ _  ?_)
        refine w_y (cj8 E1 E10 E11 X1.get X11.get hb135 hb136 TT) (k := ?_)
        refine EC.wka (.cons (.refl _) (.cons (.refl _) (.cons (.refl _) .nil))) (S_ref04_number _ _ _ _ h132 _ _  ?_)
        refine w_y (cj8 E1 E10 E11 X1.get X11.get hb135 hb136 TT) (k := ?_)
        have q29 := cj8 E1 E10 E11 X1.get X11.get hb135 hb136 TT
        exact cw_n ⟨_, WkE.refl _, X1, (xv q29), (xv q29), (xv q29), hP⟩
       ·replace h134 := ite_t (by simp only [hb135, hb136, Bool.or_true, Bool.true_or, Bool.or_false, Bool.false_or, Bool.and_true, Bool.true_and, Bool.and_false, Bool.false_and, Bool.not_true, Bool.not_false, cond_true, cond_false]) h134
        obtain rfl := some_inj h134
        refine w_x (cj8 E1 E10 E11 X1.get X11.get hb135 hb136 TT) (k := ?_)
        refine EC.wka (.cons (.refl _) .nil) (S_ref03_Right _ _ h126 _ _  ?_)
        refine w_y (cj8 E1 E10 E11 X1.get X11.get hb135 hb136 TT) (k := ?_)
        refine EC.wka (.cons (.refl _) .nil) (S_ref03_Right _ _ h128 _ _  ?_)
        refine w_y (cj8 E1 E10 E11 X1.get X11.get hb135 hb136 TT) (k := ?_)
        have q30 := cj8 E1 E10 E11 X1.get X11.get hb135 hb136 TT
        exact cw_n ⟨_, WkE.refl _, X1, (xv q30), (xv q30), (xv q30), hP⟩
      ·replace h130 := ite_t (by simp only [hb135, Bool.or_true, Bool.true_or, Bool.or_false, Bool.false_or, Bool.and_true, Bool.true_and, Bool.and_false, Bool.false_and, Bool.not_true, Bool.not_false, cond_true, cond_false]) h130
       obtain rfl := some_inj h130
       replace h134 := ite_t (by simp only [hb135, Bool.or_true, Bool.true_or, Bool.or_false, Bool.false_or, Bool.and_true, Bool.true_and, Bool.and_false, Bool.false_and, Bool.not_true, Bool.not_false, cond_true, cond_false]) h134
       obtain rfl := some_inj h134
       refine w_x (cj7 E1 E10 E11 X1.get X11.get hb135 TT) (k := ?_)
       refine EC.wka (.cons (.refl _) .nil) (S_ref03_Right _ _ h126 _ _  ?_)
       refine w_y (cj7 E1 E10 E11 X1.get X11.get hb135 TT) (k := ?_)
       have q31 := cj7 E1 E10 E11 X1.get X11.get hb135 TT
       exact cw_n ⟨_, WkE.refl _, X1, (xv q31), (xv q31), (xv q31), hP⟩
     obtain ⟨X1, E1, E10, E183, hP⟩ := hI
     rcases ite_some h121 with ⟨hb137, h121⟩ | ⟨hb137, h121⟩
     ·refine xt (cj4 E1 E10 E183 hb137) ?_
      refine w_sa (fun e s => e 2 = (.v (.bool false)) ∧ Pre σ s) ?_ fun e s hI => ?_
      ·refine w_x (cj5 E1 E10 E183 X1.get TT) (k := ?_)
       exact cw_n ⟨_, WkE.refl _, (xv (cj5 E1 E10 E183 X1.get TT)), hP⟩
      obtain ⟨E2, hP⟩ := hI
      refine w_ret ?_
      refine w_bkr ?_
      obtain rfl := some_inj h121
      refine cw_r ?_
      try dsimp only at hf118
      obtain rfl := some_inj hf118
      refine iq_r rfl fun hr138 => ?_
      obtain rfl := hr138
      refine w_bkr ?_
      refine cw_r ?_
      try dsimp only at h
      obtain rfl := some_inj h
      exact w_fin (fun _ => rfl) (xr (rs := #[.tmp 2]) E2) hP (r' := (.v (.bool false))) (.refl _) (.v _) hK
     ·refine xf (cj4 E1 E10 E183 hb137) ?_
      refine w_skip ?_
      refine w_bk ?_
      obtain rfl := some_inj h121
      exact cw_n ⟨_, WkE.refl _, rfl, X1, (xv (cj3 E1 E10 E183)), (xv (cj3 E1 E10 E183)), hP⟩
    obtain ⟨rfl, X1, E1, E10, hP⟩ := hI
    try dsimp only at hf118
    refine w_x (cj4 E1 E10 X1.get TT) (k := ?_)
    obtain rfl := some_inj hf118
    exact iq_n rfl ⟨_, WkE.refl _, _, rfl, X1, (xv (cj4 E1 E10 X1.get TT)), (xv (cj4 E1 E10 X1.get TT)), hP⟩
   ·refine xf (cj4 E1 E10 E160 hb119) ?_
    refine w_exit ?_
    refine w_sqx ?_
    obtain rfl := some_inj hf118
    refine iq_x rfl fun hr139 => ?_
    obtain rfl := hr139
    refine w_bkx ?_
    exact cw_n ⟨_, WkE.refl _, rfl, hP⟩
  obtain ⟨rfl, hP⟩ := hI
  try dsimp only at h
  refine w_sa (fun e s => e 2 = (.v (.bool true)) ∧ Pre σ s) ?_ fun e s hI => ?_
  ·refine w_x Expr.rlen (k := ?_)
   exact cw_n ⟨_, WkE.refl _, (xv Expr.rlen), hP⟩
  obtain ⟨E2, hP⟩ := hI
  refine w_ret ?_
  obtain rfl := some_inj h
  exact w_fin (fun _ => rfl) (xr (rs := #[.tmp 2]) E2) hP (r' := (.v (.bool true))) (.refl _) (.v _) hK
end Go.Proofs.Ytohmmfimedgccaa.E
end
