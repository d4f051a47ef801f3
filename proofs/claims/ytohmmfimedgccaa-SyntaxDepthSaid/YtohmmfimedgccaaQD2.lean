import Derived.Test.YtohmmfimedgccaaQD1
/- SyntaxDepth returns true at every input. PART 3 OF 7: TY SG OK PL G107 G109 G110 G108 G111 G112 G113 G126 G78 G77 G34 SA SB G79 G80 G127 G114 G81 G122 G133 G128 -/
section
namespace Go.Proofs.Ytohmmfimedgccaa.E
set_option linter.unusedVariables false
abbrev C_u8 (n : Int) : List PV := [.v (.int .u8 n)]
abbrev C_s (s : ByteArray) : List PV := [.v (.string s)]
theorem s2b_rows (s : ByteArray) : (s.data.toList.map fun b => [PV.v (.int .u8 (b.toNat : Int))]) = List.map C_u8 (strInts s) := by simp [strInts]
structure runtime_boundsError where
 x : Int
 y : Int
 signed : Bool
 code : Int
 deriving DecidableEq
instance : Inhabited runtime_boundsError := ⟨(runtime_boundsError.mk (0 : Int) (0 : Int) false (0 : Int))⟩
def runtime_boundsError.cl (x : runtime_boundsError) : List PV := [(.v (.int .i64 x.x)), (.v (.int .i64 x.y)), (.v (.bool x.signed)), (.v (.int .u8 x.code))]
theorem runtime_boundsError.cn (x : runtime_boundsError) : CnL (runtime_boundsError.cl x) := (CnL.cons (.v _) (CnL.cons (.v _) (CnL.cons (.v _) (CnL.cons (.v _) CnL.nil))))
structure Expr where
 kind : Int
 name : ByteArray
 n : Int
 d : Int
 args : (List Expr)
 at_ : Int
instance : Inhabited Expr := ⟨(Expr.mk (0 : Int) (⟨#[]⟩ : ByteArray) (0 : Int) (0 : Int) ([] : (List Expr)) (0 : Int))⟩
mutual
def Expr.cl0 : Expr → List PV
 | ⟨k, s, n, d, xs, a⟩ => [.v (.int .i64 k), .v (.string s), .v (.int .i64 n), .v (.int .i64 d), .sl (Expr.rows xs), .v (.int .i64 a)]
def Expr.rows : List Expr → List (List PV)
 | [] => []
 | e :: l => Expr.cl0 e :: Expr.rows l
end
def Expr.cl (x : Expr) : List PV := [.v (.int .i64 x.kind), .v (.string x.name), .v (.int .i64 x.n), .v (.int .i64 x.d), .sl (Expr.rows x.args), .v (.int .i64 x.at_)]
theorem Expr.cl0_eq (x : Expr) : Expr.cl0 x = Expr.cl x := by cases x; simp [Expr.cl0, Expr.cl]
theorem Expr.rows_eq : ∀ l : List Expr, Expr.rows l = l.map Expr.cl
 | [] => by simp [Expr.rows]
 | e :: l => by simp [Expr.rows, Expr.rows_eq l, Expr.cl0_eq]
theorem Expr.rlen (l : List Expr) : (Expr.rows l).length = l.length := by rw [Expr.rows_eq, List.length_map]
theorem Expr.rget {l : List Expr} {i : Nat} {x : Expr} (h : l[i]? = some x) : (Expr.rows l)[i]? = some (Expr.cl x) := by rw [Expr.rows_eq]; exact map_get h
theorem Expr.ind {p : Expr → Prop} (h : ∀ k s n d xs a, (∀ e ∈ xs, p e) → p ⟨k, s, n, d, xs, a⟩) (e : Expr) : p e :=
 Expr.rec (motive_1 := p) (motive_2 := fun l => ∀ e ∈ l, p e) (fun k s n d xs a ih => h k s n d xs a ih) (by simp) (fun e l h1 h2 => by
  intro x hx
  rcases List.mem_cons.1 hx with rfl | hx
  ·exact h1
  ·exact h2 x hx) e
theorem Expr.cn (x : Expr) : CnL (Expr.cl x) := by
 induction x using Expr.ind with
 | h k s n d xs a ih =>
  refine CnL.cons (.v _) (CnL.cons (.v _) (CnL.cons (.v _) (CnL.cons (.v _) (CnL.cons ?_ (CnL.cons (.v _) CnL.nil)))))
  show Cn (.sl (Expr.rows xs))
  rw [Expr.rows_eq]
  refine .sl fun r hr p hp => ?_
  obtain ⟨x, hx, rfl⟩ := List.mem_map.1 hr
  exact ih x hx p hp
theorem Expr.cnr (l : List Expr) : Cn (.sl (Expr.rows l)) := by rw [Expr.rows_eq]; exact Cn.rows Expr.cn l
structure Node where
 name : ByteArray
 params : (List ByteArray)
 budget : Int
 body : Expr
 at_ : Int
instance : Inhabited Node := ⟨(Node.mk (⟨#[]⟩ : ByteArray) ([] : (List ByteArray)) (0 : Int) (Expr.mk (0 : Int) (⟨#[]⟩ : ByteArray) (0 : Int) (0 : Int) ([] : (List Expr)) (0 : Int)) (0 : Int))⟩
def Node.cl (x : Node) : List PV := [(.v (.string x.name)), (.sl (List.map C_s x.params)), (.v (.int .i64 x.budget)), (.v (.int .i64 x.body.kind)), (.v (.string x.body.name)), (.v (.int .i64 x.body.n)), (.v (.int .i64 x.body.d)), (.sl (Expr.rows x.body.args)), (.v (.int .i64 x.body.at_)), (.v (.int .i64 x.at_))]
theorem Node.cn (x : Node) : CnL (Node.cl x) := (CnL.cons (.v _) (CnL.cons (Cn.rows (fun _ => CnL.cons (.v _) CnL.nil) _) (CnL.cons (.v _) (CnL.cons (.v _) (CnL.cons (.v _) (CnL.cons (.v _) (CnL.cons (.v _) (CnL.cons (Expr.cnr _) (CnL.cons (.v _) (CnL.cons (.v _) CnL.nil))))))))))
structure Flow where
 name : ByteArray
 e : Expr
 at_ : Int
instance : Inhabited Flow := ⟨(Flow.mk (⟨#[]⟩ : ByteArray) (Expr.mk (0 : Int) (⟨#[]⟩ : ByteArray) (0 : Int) (0 : Int) ([] : (List Expr)) (0 : Int)) (0 : Int))⟩
def Flow.cl (x : Flow) : List PV := [(.v (.string x.name)), (.v (.int .i64 x.e.kind)), (.v (.string x.e.name)), (.v (.int .i64 x.e.n)), (.v (.int .i64 x.e.d)), (.sl (Expr.rows x.e.args)), (.v (.int .i64 x.e.at_)), (.v (.int .i64 x.at_))]
theorem Flow.cn (x : Flow) : CnL (Flow.cl x) := (CnL.cons (.v _) (CnL.cons (.v _) (CnL.cons (.v _) (CnL.cons (.v _) (CnL.cons (.v _) (CnL.cons (Expr.cnr _) (CnL.cons (.v _) (CnL.cons (.v _) CnL.nil))))))))
structure Input where
 name : ByteArray
 period : Int
 phase : Int
 at_ : Int
 deriving DecidableEq
instance : Inhabited Input := ⟨(Input.mk (⟨#[]⟩ : ByteArray) (0 : Int) (0 : Int) (0 : Int))⟩
def Input.cl (x : Input) : List PV := [(.v (.string x.name)), (.v (.int .i64 x.period)), (.v (.int .i64 x.phase)), (.v (.int .i64 x.at_))]
theorem Input.cn (x : Input) : CnL (Input.cl x) := (CnL.cons (.v _) (CnL.cons (.v _) (CnL.cons (.v _) (CnL.cons (.v _) CnL.nil))))
structure Output where
 name : ByteArray
 flow : ByteArray
 deadline : Int
 at_ : Int
 deriving DecidableEq
instance : Inhabited Output := ⟨(Output.mk (⟨#[]⟩ : ByteArray) (⟨#[]⟩ : ByteArray) (0 : Int) (0 : Int))⟩
def Output.cl (x : Output) : List PV := [(.v (.string x.name)), (.v (.string x.flow)), (.v (.int .i64 x.deadline)), (.v (.int .i64 x.at_))]
theorem Output.cn (x : Output) : CnL (Output.cl x) := (CnL.cons (.v _) (CnL.cons (.v _) (CnL.cons (.v _) (CnL.cons (.v _) CnL.nil))))
structure Program where
 nodes : (List Node)
 inputs : (List Input)
 flows : (List Flow)
 outputs : (List Output)
instance : Inhabited Program := ⟨(Program.mk ([] : (List Node)) ([] : (List Input)) ([] : (List Flow)) ([] : (List Output)))⟩
def Program.cl (x : Program) : List PV := [(.sl (List.map Node.cl x.nodes)), (.sl (List.map Input.cl x.inputs)), (.sl (List.map Flow.cl x.flows)), (.sl (List.map Output.cl x.outputs))]
theorem Program.cn (x : Program) : CnL (Program.cl x) := (CnL.cons (Cn.rows Node.cn _) (CnL.cons (Cn.rows Input.cn _) (CnL.cons (Cn.rows Flow.cn _) (CnL.cons (Cn.rows Output.cn _) CnL.nil))))
structure Clock where
 period : Int
 phase : Int
 deriving DecidableEq
instance : Inhabited Clock := ⟨(Clock.mk (0 : Int) (0 : Int))⟩
def Clock.cl (x : Clock) : List PV := [(.v (.int .i64 x.period)), (.v (.int .i64 x.phase))]
theorem Clock.cn (x : Clock) : CnL (Clock.cl x) := (CnL.cons (.v _) (CnL.cons (.v _) CnL.nil))
structure Op where
 kind : Int
 n : Int
 d : Int
 deriving DecidableEq
instance : Inhabited Op := ⟨(Op.mk (0 : Int) (0 : Int) (0 : Int))⟩
def Op.cl (x : Op) : List PV := [(.v (.int .i64 x.kind)), (.v (.int .i64 x.n)), (.v (.int .i64 x.d))]
theorem Op.cn (x : Op) : CnL (Op.cl x) := (CnL.cons (.v _) (CnL.cons (.v _) (CnL.cons (.v _) CnL.nil)))
structure Arg where
 src : Int
 ops : (List Op)
 deriving DecidableEq
instance : Inhabited Arg := ⟨(Arg.mk (0 : Int) ([] : (List Op)))⟩
def Arg.cl (x : Arg) : List PV := [(.v (.int .i64 x.src)), (.sl (List.map Op.cl x.ops))]
theorem Arg.cn (x : Arg) : CnL (Arg.cl x) := (CnL.cons (.v _) (CnL.cons (Cn.rows Op.cn _) CnL.nil))
structure Task where
 node : Int
 clock : Clock
 args : (List Arg)
 deriving DecidableEq
instance : Inhabited Task := ⟨(Task.mk (0 : Int) (Clock.mk (0 : Int) (0 : Int)) ([] : (List Arg)))⟩
def Task.cl (x : Task) : List PV := [(.v (.int .i64 x.node)), (.v (.int .i64 x.clock.period)), (.v (.int .i64 x.clock.phase)), (.sl (List.map Arg.cl x.args))]
theorem Task.cn (x : Task) : CnL (Task.cl x) := (CnL.cons (.v _) (CnL.cons (.v _) (CnL.cons (.v _) (CnL.cons (Cn.rows Arg.cn _) CnL.nil))))
structure Tell where
 clock : Clock
 arg : Arg
 deadline : Int
 deriving DecidableEq
instance : Inhabited Tell := ⟨(Tell.mk (Clock.mk (0 : Int) (0 : Int)) (Arg.mk (0 : Int) ([] : (List Op))) (0 : Int))⟩
def Tell.cl (x : Tell) : List PV := [(.v (.int .i64 x.clock.period)), (.v (.int .i64 x.clock.phase)), (.v (.int .i64 x.arg.src)), (.sl (List.map Op.cl x.arg.ops)), (.v (.int .i64 x.deadline))]
theorem Tell.cn (x : Tell) : CnL (Tell.cl x) := (CnL.cons (.v _) (CnL.cons (.v _) (CnL.cons (.v _) (CnL.cons (Cn.rows Op.cn _) (CnL.cons (.v _) CnL.nil)))))
structure Flat where
 inputs : (List Clock)
 nodes : (List Node)
 tasks : (List Task)
 tells : (List Tell)
instance : Inhabited Flat := ⟨(Flat.mk ([] : (List Clock)) ([] : (List Node)) ([] : (List Task)) ([] : (List Tell)))⟩
def Flat.cl (x : Flat) : List PV := [(.sl (List.map Clock.cl x.inputs)), (.sl (List.map Node.cl x.nodes)), (.sl (List.map Task.cl x.tasks)), (.sl (List.map Tell.cl x.tells))]
theorem Flat.cn (x : Flat) : CnL (Flat.cl x) := (CnL.cons (Cn.rows Clock.cn _) (CnL.cons (Cn.rows Node.cn _) (CnL.cons (Cn.rows Task.cn _) (CnL.cons (Cn.rows Tell.cn _) CnL.nil))))
structure ref08_Place where
 flow : Int
 at_ : Int
 deriving DecidableEq
instance : Inhabited ref08_Place := ⟨(ref08_Place.mk (0 : Int) (0 : Int))⟩
def ref08_Place.cl (x : ref08_Place) : List PV := [(.v (.int .i64 x.flow)), (.v (.int .i64 x.at_))]
theorem ref08_Place.cn (x : ref08_Place) : CnL (ref08_Place.cl x) := (CnL.cons (.v _) (CnL.cons (.v _) CnL.nil))
structure lex_Token where
 kind : Int
 text : ByteArray
 n : Int
 at_ : Int
 deriving DecidableEq
instance : Inhabited lex_Token := ⟨(lex_Token.mk (0 : Int) (⟨#[]⟩ : ByteArray) (0 : Int) (0 : Int))⟩
def lex_Token.cl (x : lex_Token) : List PV := [(.v (.int .i64 x.kind)), (.v (.string x.text)), (.v (.int .i64 x.n)), (.v (.int .i64 x.at_))]
theorem lex_Token.cn (x : lex_Token) : CnL (lex_Token.cl x) := (CnL.cons (.v _) (CnL.cons (.v _) (CnL.cons (.v _) (CnL.cons (.v _) CnL.nil))))
structure check_finder where
 at_ : Int
 e : Int
 deriving DecidableEq
instance : Inhabited check_finder := ⟨(check_finder.mk (0 : Int) (0 : Int))⟩
def check_finder.cl (x : check_finder) : List PV := [(.v (.int .i64 x.at_)), (.v (.int .i64 x.e))]
theorem check_finder.cn (x : check_finder) : CnL (check_finder.cl x) := (CnL.cons (.v _) (CnL.cons (.v _) CnL.nil))
structure check_solver where
 finder : check_finder
 known : (Mp Clock)
instance : Inhabited check_solver := ⟨(check_solver.mk (check_finder.mk (0 : Int) (0 : Int)) (Mp.emp : (Mp Clock)))⟩
structure flat_call where
 node : Int
 args : (List Expr)
 ways : (List ByteArray)
instance : Inhabited flat_call := ⟨(flat_call.mk (0 : Int) ([] : (List Expr)) ([] : (List ByteArray)))⟩
def flat_call.cl (x : flat_call) : List PV := [(.v (.int .i64 x.node)), (.sl (Expr.rows x.args)), (.sl (List.map C_s x.ways))]
theorem flat_call.cn (x : flat_call) : CnL (flat_call.cl x) := (CnL.cons (.v _) (CnL.cons (Expr.cnr _) (CnL.cons (Cn.rows (fun _ => CnL.cons (.v _) CnL.nil) _) CnL.nil)))
structure flat_maker where
 p : Program
 flows : (Mp Int)
 calls : (List flat_call)
 at_ : (Mp Int)
 error : Int
 e : Int
instance : Inhabited flat_maker := ⟨(flat_maker.mk (Program.mk ([] : (List Node)) ([] : (List Input)) ([] : (List Flow)) ([] : (List Output))) (Mp.emp : (Mp Int)) ([] : (List flat_call)) (Mp.emp : (Mp Int)) (0 : Int) (0 : Int))⟩
structure syntax_reader where
 l : (List lex_Token)
 end_ : Int
 pos : Int
 at_ : Int
 e : Int
 p : Program
instance : Inhabited syntax_reader := ⟨(syntax_reader.mk ([] : (List lex_Token)) (0 : Int) (0 : Int) (0 : Int) (0 : Int) (Program.mk ([] : (List Node)) ([] : (List Input)) ([] : (List Flow)) ([] : (List Output))))⟩
def syntax_reader.cl (x : syntax_reader) : List PV := [(.sl (List.map lex_Token.cl x.l)), (.v (.int .i64 x.end_)), (.v (.int .i64 x.pos)), (.v (.int .i64 x.at_)), (.v (.int .i64 x.e)), (oz (List.map Node.cl x.p.nodes)), (oz (List.map Input.cl x.p.inputs)), (oz (List.map Flow.cl x.p.flows)), (oz (List.map Output.cl x.p.outputs))]
theorem syntax_reader.cn (x : syntax_reader) : CnL (syntax_reader.cl x) := (CnL.cons (Cn.rows lex_Token.cn _) (CnL.cons (.v _) (CnL.cons (.v _) (CnL.cons (.v _) (CnL.cons (.v _) (CnL.cons (Cn.oz (Cn.rows Node.cn _)) (CnL.cons (Cn.oz (Cn.rows Input.cn _)) (CnL.cons (Cn.oz (Cn.rows Flow.cn _)) (CnL.cons (Cn.oz (Cn.rows Output.cn _)) CnL.nil)))))))))
theorem T_2 : T 2 = some ⟨1, 8, false, false, [(.i .i64)], .int .i64⟩ := rfl
theorem T_3 : T 3 = some ⟨1, 8, false, false, [(.i .i64)], .int .i64⟩ := rfl
theorem T_4 : T 4 = some ⟨1, 1, false, false, [.b], .bool⟩ := rfl
theorem T_5 : T 5 = some ⟨1, 1, false, false, [(.i .u8)], .int .u8⟩ := rfl
theorem T_9 : T 9 = some ⟨1, 16, false, false, [.s], .str⟩ := rfl
theorem T_22 : T 22 = some ⟨1, 24, false, false, [.sl], .slc 99⟩ := rfl
theorem T_23 : T 23 = some ⟨1, 24, false, false, [.sl], .slc 96⟩ := rfl
theorem T_24 : T 24 = some ⟨1, 24, false, false, [.sl], .slc 41⟩ := rfl
theorem T_25 : T 25 = some ⟨1, 24, false, false, [.sl], .slc 65⟩ := rfl
theorem T_27 : T 27 = some ⟨4, 96, true, false, [.sl, .sl, .sl, .sl], .st [(0, 22), (1, 23), (2, 24), (3, 25)]⟩ := rfl
theorem T_30 : T 30 = some ⟨1, 8, false, false, [(.i .i64)], .int .i64⟩ := rfl
theorem T_37 : T 37 = some ⟨1, 24, false, false, [.sl], .slc 39⟩ := rfl
theorem T_39 : T 39 = some ⟨6, 72, true, false, [(.i .i64), .s, (.i .i64), (.i .i64), .sl, (.i .i64)], .st [(0, 3), (1, 9), (2, 2), (3, 2), (4, 37), (5, 3)]⟩ := rfl
theorem T_41 : T 41 = some ⟨8, 96, true, false, [.s, (.i .i64), .s, (.i .i64), (.i .i64), .sl, (.i .i64), (.i .i64)], .st [(0, 9), (1, 39), (7, 3)]⟩ := rfl
theorem T_81 : T 81 = some ⟨1, 24, false, false, [.sl], .slc 85⟩ := rfl
theorem T_85 : T 85 = some ⟨4, 40, true, true, [(.i .i64), .s, (.i .i64), (.i .i64)], .st [(0, 3), (1, 9), (2, 2), (3, 3)]⟩ := rfl
theorem T_89 : T 89 = some ⟨1, 24, false, false, [.sl], .slc 5⟩ := rfl
theorem T_90 : T 90 = some ⟨3, 24, true, false, [(.i .i64), (.i .i64), (.i .i64)], .arr 3 3⟩ := rfl
theorem T_91 : T 91 = some ⟨3, 24, true, false, [(.i .i64), (.i .i64), (.i .i64)], .arr 3 2⟩ := rfl
theorem T_97 : T 97 = some ⟨1, 24, false, false, [.sl], .slc 9⟩ := rfl
theorem T_153 : T 153 = some ⟨1, 8, false, false, [.p], .other⟩ := rfl
theorem T_155 : T 155 = some ⟨9, 152, true, false, [.sl, (.i .i64), (.i .i64), (.i .i64), (.i .i64), .se, .se, .se, .se], .st [(0, 81), (1, 3), (2, 3), (3, 3), (4, 30), (5, 27)]⟩ := rfl
theorem T_157 : T 157 = some ⟨5, 80, true, false, [.s, .s, .s, .s, .s], .arr 5 9⟩ := rfl
theorem T_158 : T 158 = some ⟨1, 8, false, false, [.f], .other⟩ := rfl
def Sp_law04_SyntaxDepth (a0 : Int) (a1 : (List Int)) (a2 : Int) (r : Bool) : Prop := ∀ (σ : Store) (K : PV → Store → Prop), K (.v (.bool r)) σ → EC Try.prog 8 [(.v (.int .u8 a0)), (.sl (List.map C_u8 a1)), (.v (.int .u8 a2))] σ K
def Sat_law04_SyntaxDepth (F : Int → (List Int) → Int → Option Bool) : Prop := ∀ (a0 : Int) (a1 : (List Int)) (a2 : Int) (r : Bool), F a0 a1 a2 = some r → Sp_law04_SyntaxDepth a0 a1 a2 r
def Sp_law04_awake  (r : Bool) : Prop := ∀ (σ : Store) (K : PV → Store → Prop), K (.v (.bool r)) σ → EC Try.prog 32 [] σ K
def Sat_law04_awake (F : Option Bool) : Prop := ∀ (r : Bool), F = some r → Sp_law04_awake r
def Sp_lex_Lex (a0 : ByteArray) (r : ((List lex_Token) × Int × Int)) : Prop := ∀ (σ : Store) (K : PV → Store → Prop), K (.tu [(.sl (List.map lex_Token.cl r.1)), (.v (.int .i64 r.2.1)), (.v (.int .i64 r.2.2))]) σ → EC Try.prog 34 [(.v (.string a0))] σ K
def Sat_lex_Lex (F : ByteArray → Option ((List lex_Token) × Int × Int)) : Prop := ∀ (a0 : ByteArray) (r : ((List lex_Token) × Int × Int)), F a0 = some r → Sp_lex_Lex a0 r
def Sp_syntax_Parse (a0 : ByteArray) (r : (Program × Int × Int)) : Prop := ∀ (σ : Store) (K : PV → Store → Prop), K (.tu [(.ag [(.sl (List.map Node.cl r.1.nodes)), (.sl (List.map Input.cl r.1.inputs)), (.sl (List.map Flow.cl r.1.flows)), (.sl (List.map Output.cl r.1.outputs))]), (.v (.int .i64 r.2.1)), (.v (.int .i64 r.2.2))]) σ → EC Try.prog 35 [(.v (.string a0))] σ K
def Sat_syntax_Parse (F : ByteArray → Option (Program × Int × Int)) : Prop := ∀ (a0 : ByteArray) (r : (Program × Int × Int)), F a0 = some r → Sp_syntax_Parse a0 r
def Sp_ref04_Text (a0 : Expr) (r : ByteArray) : Prop := ∀ (σ : Store) (K : PV → Store → Prop), K (.v (.string r)) σ → EC Try.prog 36 [(.ag [(.v (.int .i64 a0.kind)), (.v (.string a0.name)), (.v (.int .i64 a0.n)), (.v (.int .i64 a0.d)), (.sl (Expr.rows a0.args)), (.v (.int .i64 a0.at_))])] σ K
def Sat_ref04_Text (F : Expr → Option ByteArray) : Prop := ∀ (a0 : Expr) (r : ByteArray), F a0 = some r → Sp_ref04_Text a0 r
def Sp_syntax_Depth (a0 : Expr) (r : Int) : Prop := ∀ (σ : Store) (K : PV → Store → Prop), K (.v (.int .i64 r)) σ → EC Try.prog 37 [(.ag [(.v (.int .i64 a0.kind)), (.v (.string a0.name)), (.v (.int .i64 a0.n)), (.v (.int .i64 a0.d)), (.sl (Expr.rows a0.args)), (.v (.int .i64 a0.at_))])] σ K
def Sat_syntax_Depth (F : Expr → Option Int) : Prop := ∀ (a0 : Expr) (r : Int), F a0 = some r → Sp_syntax_Depth a0 r
def Sp_ref04_Digits (a0 : Int) (r : ByteArray) : Prop := ∀ (σ : Store) (K : PV → Store → Prop), K (.v (.string r)) σ → EC Try.prog 75 [(.v (.int .i64 a0))] σ K
def Sat_ref04_Digits (F : Int → Option ByteArray) : Prop := ∀ (a0 : Int) (r : ByteArray), F a0 = some r → Sp_ref04_Digits a0 r
def Sp_lex_blank (a0 : ByteArray) (r : Int) : Prop := ∀ (σ : Store) (K : PV → Store → Prop), K (.v (.int .i64 r)) σ → EC Try.prog 77 [(.v (.string a0))] σ K
def Sat_lex_blank (F : ByteArray → Option Int) : Prop := ∀ (a0 : ByteArray) (r : Int), F a0 = some r → Sp_lex_blank a0 r
def Sp_lex_next (a0 : ByteArray) (r : (lex_Token × Int)) : Prop := ∀ (σ : Store) (K : PV → Store → Prop), K (.tu [(.ag [(.v (.int .i64 r.1.kind)), (.v (.string r.1.text)), (.v (.int .i64 r.1.n)), (.v (.int .i64 r.1.at_))]), (.v (.int .i64 r.2))]) σ → EC Try.prog 78 [(.v (.string a0))] σ K
def Sat_lex_next (F : ByteArray → Option (lex_Token × Int)) : Prop := ∀ (a0 : ByteArray) (r : (lex_Token × Int)), F a0 = some r → Sp_lex_next a0 r
def Sp_syntax_reader_now (a0 : syntax_reader) (r : lex_Token) : Prop := ∀ (σ : Store) (K : PV → Store → Prop) (j0 : Nat), Gx σ j0 (AObj.box 155 [(.sl (List.map lex_Token.cl a0.l)), (.v (.int .i64 a0.end_)), (.v (.int .i64 a0.pos)), (.v (.int .i64 a0.at_)), (.v (.int .i64 a0.e)), (oz (List.map Node.cl a0.p.nodes)), (oz (List.map Input.cl a0.p.inputs)), (oz (List.map Flow.cl a0.p.flows)), (oz (List.map Output.cl a0.p.outputs))]) → K (.ag [(.v (.int .i64 r.kind)), (.v (.string r.text)), (.v (.int .i64 r.n)), (.v (.int .i64 r.at_))]) σ → EC Try.prog 79 [(.pt j0 0)] σ K
def Sat_syntax_reader_now (F : syntax_reader → Option lex_Token) : Prop := ∀ (a0 : syntax_reader) (r : lex_Token), F a0 = some r → Sp_syntax_reader_now a0 r
def Sp_syntax_reader_fail (a0 : syntax_reader) (a1 : Int) (a2 : Int) (r : (Unit × syntax_reader)) : Prop := ∀ (σ : Store) (K : PV → Store → Prop) (j0 : Nat), Gx σ j0 (AObj.box 155 [(.sl (List.map lex_Token.cl a0.l)), (.v (.int .i64 a0.end_)), (.v (.int .i64 a0.pos)), (.v (.int .i64 a0.at_)), (.v (.int .i64 a0.e)), (oz (List.map Node.cl a0.p.nodes)), (oz (List.map Input.cl a0.p.inputs)), (oz (List.map Flow.cl a0.p.flows)), (oz (List.map Output.cl a0.p.outputs))]) → K (.tu []) (List.set σ j0 (some (AObj.box 155 [(.sl (List.map lex_Token.cl r.2.l)), (.v (.int .i64 r.2.end_)), (.v (.int .i64 r.2.pos)), (.v (.int .i64 r.2.at_)), (.v (.int .i64 r.2.e)), (oz (List.map Node.cl r.2.p.nodes)), (oz (List.map Input.cl r.2.p.inputs)), (oz (List.map Flow.cl r.2.p.flows)), (oz (List.map Output.cl r.2.p.outputs))]))) → EC Try.prog 80 [(.pt j0 0), (.v (.int .i64 a1)), (.v (.int .i64 a2))] σ K
def Sat_syntax_reader_fail (F : syntax_reader → Int → Int → Option (Unit × syntax_reader)) : Prop := ∀ (a0 : syntax_reader) (a1 : Int) (a2 : Int) (r : (Unit × syntax_reader)), F a0 a1 a2 = some r → Sp_syntax_reader_fail a0 a1 a2 r
def Sp_syntax_reader_can (a0 : syntax_reader) (a1 : ByteArray) (r : (Bool × syntax_reader)) : Prop := ∀ (σ : Store) (K : PV → Store → Prop) (j0 : Nat), Gx σ j0 (AObj.box 155 [(.sl (List.map lex_Token.cl a0.l)), (.v (.int .i64 a0.end_)), (.v (.int .i64 a0.pos)), (.v (.int .i64 a0.at_)), (.v (.int .i64 a0.e)), (oz (List.map Node.cl a0.p.nodes)), (oz (List.map Input.cl a0.p.inputs)), (oz (List.map Flow.cl a0.p.flows)), (oz (List.map Output.cl a0.p.outputs))]) → K (.v (.bool r.1)) (List.set σ j0 (some (AObj.box 155 [(.sl (List.map lex_Token.cl r.2.l)), (.v (.int .i64 r.2.end_)), (.v (.int .i64 r.2.pos)), (.v (.int .i64 r.2.at_)), (.v (.int .i64 r.2.e)), (oz (List.map Node.cl r.2.p.nodes)), (oz (List.map Input.cl r.2.p.inputs)), (oz (List.map Flow.cl r.2.p.flows)), (oz (List.map Output.cl r.2.p.outputs))]))) → EC Try.prog 81 [(.pt j0 0), (.v (.string a1))] σ K
def Sat_syntax_reader_can (F : syntax_reader → ByteArray → Option (Bool × syntax_reader)) : Prop := ∀ (a0 : syntax_reader) (a1 : ByteArray) (r : (Bool × syntax_reader)), F a0 a1 = some r → Sp_syntax_reader_can a0 a1 r
def Sp_syntax_reader_flow (a0 : syntax_reader) (r : (Unit × syntax_reader)) : Prop := ∀ (σ : Store) (K : PV → Store → Prop) (j0 : Nat), Gx σ j0 (AObj.box 155 [(.sl (List.map lex_Token.cl a0.l)), (.v (.int .i64 a0.end_)), (.v (.int .i64 a0.pos)), (.v (.int .i64 a0.at_)), (.v (.int .i64 a0.e)), (oz (List.map Node.cl a0.p.nodes)), (oz (List.map Input.cl a0.p.inputs)), (oz (List.map Flow.cl a0.p.flows)), (oz (List.map Output.cl a0.p.outputs))]) → K (.tu []) (List.set σ j0 (some (AObj.box 155 [(.sl (List.map lex_Token.cl r.2.l)), (.v (.int .i64 r.2.end_)), (.v (.int .i64 r.2.pos)), (.v (.int .i64 r.2.at_)), (.v (.int .i64 r.2.e)), (oz (List.map Node.cl r.2.p.nodes)), (oz (List.map Input.cl r.2.p.inputs)), (oz (List.map Flow.cl r.2.p.flows)), (oz (List.map Output.cl r.2.p.outputs))]))) → EC Try.prog 84 [(.pt j0 0)] σ K
def Sat_syntax_reader_flow (F : syntax_reader → Option (Unit × syntax_reader)) : Prop := ∀ (a0 : syntax_reader) (r : (Unit × syntax_reader)), F a0 = some r → Sp_syntax_reader_flow a0 r
def Sp_lex_in (a0 : Int) (a1 : Bool) (r : Bool) : Prop := ∀ (σ : Store) (K : PV → Store → Prop), K (.v (.bool r)) σ → EC Try.prog 107 [(.v (.int .u8 a0)), (.v (.bool a1))] σ K
def Sat_lex_in (F : Int → Bool → Option Bool) : Prop := ∀ (a0 : Int) (a1 : Bool) (r : Bool), F a0 a1 = some r → Sp_lex_in a0 a1 r
def Sp_lex_while (a0 : ByteArray) (a1 : (Int → Option Bool)) (r : Int) : Prop := ∀ (σ : Store) (K : PV → Store → Prop) (fid1 : FuncId) (caps1 : List PV), (∀ (x0 : Int) (b : Bool), a1 x0 = some b → ∀ (s : Store) (K : PV → Store → Prop), Pre σ s → K (.v (.bool b)) s → EC Try.prog fid1 ((.v (.int .u8 x0)) :: caps1) s K) → K (.v (.int .i64 r)) σ → EC Try.prog 108 [(.v (.string a0)), (.fn fid1 [] caps1)] σ K
def Sat_lex_while (F : ByteArray → (Int → Option Bool) → Option Int) : Prop := ∀ (a0 : ByteArray) (a1 : (Int → Option Bool)) (r : Int), F a0 a1 = some r → Sp_lex_while a0 a1 r
def Sp_lex_next_c1 (a0 : Int) (r : Bool) : Prop := ∀ (σ : Store) (K : PV → Store → Prop), K (.v (.bool r)) σ → EC Try.prog 109 [(.v (.int .u8 a0))] σ K
def Sat_lex_next_c1 (F : Int → Option Bool) : Prop := ∀ (a0 : Int) (r : Bool), F a0 = some r → Sp_lex_next_c1 a0 r
def Sp_lex_digit (a0 : Int) (r : Bool) : Prop := ∀ (σ : Store) (K : PV → Store → Prop), K (.v (.bool r)) σ → EC Try.prog 110 [(.v (.int .u8 a0))] σ K
def Sat_lex_digit (F : Int → Option Bool) : Prop := ∀ (a0 : Int) (r : Bool), F a0 = some r → Sp_lex_digit a0 r
def Sp_lex_number (a0 : ByteArray) (r : (Int × Bool)) : Prop := ∀ (σ : Store) (K : PV → Store → Prop), K (.tu [(.v (.int .i64 r.1)), (.v (.bool r.2))]) σ → EC Try.prog 111 [(.v (.string a0))] σ K
def Sat_lex_number (F : ByteArray → Option (Int × Bool)) : Prop := ∀ (a0 : ByteArray) (r : (Int × Bool)), F a0 = some r → Sp_lex_number a0 r
def Sp_lex_signs  (r : (List ByteArray)) : Prop := ∀ (σ : Store) (K : PV → Store → Prop), K (.sl (List.map C_s r)) σ → EC Try.prog 112 [] σ K
def Sat_lex_signs (F : Option (List ByteArray)) : Prop := ∀ (r : (List ByteArray)), F = some r → Sp_lex_signs r
def Sp_strings_HasPrefix (a0 : ByteArray) (a1 : ByteArray) (r : Bool) : Prop := ∀ (σ : Store) (K : PV → Store → Prop), K (.v (.bool r)) σ → EC Try.prog 113 [(.v (.string a0)), (.v (.string a1))] σ K
def Sat_strings_HasPrefix (F : ByteArray → ByteArray → Option Bool) : Prop := ∀ (a0 : ByteArray) (a1 : ByteArray) (r : Bool), F a0 a1 = some r → Sp_strings_HasPrefix a0 a1 r
def Sp_syntax_reader_is (a0 : syntax_reader) (a1 : ByteArray) (r : Bool) : Prop := ∀ (σ : Store) (K : PV → Store → Prop) (j0 : Nat), Gx σ j0 (AObj.box 155 [(.sl (List.map lex_Token.cl a0.l)), (.v (.int .i64 a0.end_)), (.v (.int .i64 a0.pos)), (.v (.int .i64 a0.at_)), (.v (.int .i64 a0.e)), (oz (List.map Node.cl a0.p.nodes)), (oz (List.map Input.cl a0.p.inputs)), (oz (List.map Flow.cl a0.p.flows)), (oz (List.map Output.cl a0.p.outputs))]) → K (.v (.bool r)) σ → EC Try.prog 114 [(.pt j0 0), (.v (.string a1))] σ K
def Sat_syntax_reader_is (F : syntax_reader → ByteArray → Option Bool) : Prop := ∀ (a0 : syntax_reader) (a1 : ByteArray) (r : Bool), F a0 a1 = some r → Sp_syntax_reader_is a0 a1 r
def Sp_syntax_reader_name (a0 : syntax_reader) (r : (lex_Token × syntax_reader)) : Prop := ∀ (σ : Store) (K : PV → Store → Prop) (j0 : Nat), Gx σ j0 (AObj.box 155 [(.sl (List.map lex_Token.cl a0.l)), (.v (.int .i64 a0.end_)), (.v (.int .i64 a0.pos)), (.v (.int .i64 a0.at_)), (.v (.int .i64 a0.e)), (oz (List.map Node.cl a0.p.nodes)), (oz (List.map Input.cl a0.p.inputs)), (oz (List.map Flow.cl a0.p.flows)), (oz (List.map Output.cl a0.p.outputs))]) → K (.ag [(.v (.int .i64 r.1.kind)), (.v (.string r.1.text)), (.v (.int .i64 r.1.n)), (.v (.int .i64 r.1.at_))]) (List.set σ j0 (some (AObj.box 155 [(.sl (List.map lex_Token.cl r.2.l)), (.v (.int .i64 r.2.end_)), (.v (.int .i64 r.2.pos)), (.v (.int .i64 r.2.at_)), (.v (.int .i64 r.2.e)), (oz (List.map Node.cl r.2.p.nodes)), (oz (List.map Input.cl r.2.p.inputs)), (oz (List.map Flow.cl r.2.p.flows)), (oz (List.map Output.cl r.2.p.outputs))]))) → EC Try.prog 115 [(.pt j0 0)] σ K
def Sat_syntax_reader_name (F : syntax_reader → Option (lex_Token × syntax_reader)) : Prop := ∀ (a0 : syntax_reader) (r : (lex_Token × syntax_reader)), F a0 = some r → Sp_syntax_reader_name a0 r
def Sp_syntax_reader_must (a0 : syntax_reader) (a1 : ByteArray) (r : (Unit × syntax_reader)) : Prop := ∀ (σ : Store) (K : PV → Store → Prop) (j0 : Nat), Gx σ j0 (AObj.box 155 [(.sl (List.map lex_Token.cl a0.l)), (.v (.int .i64 a0.end_)), (.v (.int .i64 a0.pos)), (.v (.int .i64 a0.at_)), (.v (.int .i64 a0.e)), (oz (List.map Node.cl a0.p.nodes)), (oz (List.map Input.cl a0.p.inputs)), (oz (List.map Flow.cl a0.p.flows)), (oz (List.map Output.cl a0.p.outputs))]) → K (.tu []) (List.set σ j0 (some (AObj.box 155 [(.sl (List.map lex_Token.cl r.2.l)), (.v (.int .i64 r.2.end_)), (.v (.int .i64 r.2.pos)), (.v (.int .i64 r.2.at_)), (.v (.int .i64 r.2.e)), (oz (List.map Node.cl r.2.p.nodes)), (oz (List.map Input.cl r.2.p.inputs)), (oz (List.map Flow.cl r.2.p.flows)), (oz (List.map Output.cl r.2.p.outputs))]))) → EC Try.prog 116 [(.pt j0 0), (.v (.string a1))] σ K
def Sat_syntax_reader_must (F : syntax_reader → ByteArray → Option (Unit × syntax_reader)) : Prop := ∀ (a0 : syntax_reader) (a1 : ByteArray) (r : (Unit × syntax_reader)), F a0 a1 = some r → Sp_syntax_reader_must a0 a1 r
def Sp_syntax_reader_number (a0 : syntax_reader) (a1 : Int) (a2 : Int) (r : (Int × syntax_reader)) : Prop := ∀ (σ : Store) (K : PV → Store → Prop) (j0 : Nat), Gx σ j0 (AObj.box 155 [(.sl (List.map lex_Token.cl a0.l)), (.v (.int .i64 a0.end_)), (.v (.int .i64 a0.pos)), (.v (.int .i64 a0.at_)), (.v (.int .i64 a0.e)), (oz (List.map Node.cl a0.p.nodes)), (oz (List.map Input.cl a0.p.inputs)), (oz (List.map Flow.cl a0.p.flows)), (oz (List.map Output.cl a0.p.outputs))]) → K (.v (.int .i64 r.1)) (List.set σ j0 (some (AObj.box 155 [(.sl (List.map lex_Token.cl r.2.l)), (.v (.int .i64 r.2.end_)), (.v (.int .i64 r.2.pos)), (.v (.int .i64 r.2.at_)), (.v (.int .i64 r.2.e)), (oz (List.map Node.cl r.2.p.nodes)), (oz (List.map Input.cl r.2.p.inputs)), (oz (List.map Flow.cl r.2.p.flows)), (oz (List.map Output.cl r.2.p.outputs))]))) → EC Try.prog 119 [(.pt j0 0), (.v (.int .i64 a1)), (.v (.int .i64 a2))] σ K
def Sat_syntax_reader_number (F : syntax_reader → Int → Int → Option (Int × syntax_reader)) : Prop := ∀ (a0 : syntax_reader) (a1 : Int) (a2 : Int) (r : (Int × syntax_reader)), F a0 a1 a2 = some r → Sp_syntax_reader_number a0 a1 a2 r
def Sp_syntax_reader_expr (a0 : syntax_reader) (r : (Expr × syntax_reader)) : Prop := ∀ (σ : Store) (K : PV → Store → Prop) (j0 : Nat), Gx σ j0 (AObj.box 155 [(.sl (List.map lex_Token.cl a0.l)), (.v (.int .i64 a0.end_)), (.v (.int .i64 a0.pos)), (.v (.int .i64 a0.at_)), (.v (.int .i64 a0.e)), (oz (List.map Node.cl a0.p.nodes)), (oz (List.map Input.cl a0.p.inputs)), (oz (List.map Flow.cl a0.p.flows)), (oz (List.map Output.cl a0.p.outputs))]) → K (.ag [(.v (.int .i64 r.1.kind)), (.v (.string r.1.name)), (.v (.int .i64 r.1.n)), (.v (.int .i64 r.1.d)), (.sl (Expr.rows r.1.args)), (.v (.int .i64 r.1.at_))]) (List.set σ j0 (some (AObj.box 155 [(.sl (List.map lex_Token.cl r.2.l)), (.v (.int .i64 r.2.end_)), (.v (.int .i64 r.2.pos)), (.v (.int .i64 r.2.at_)), (.v (.int .i64 r.2.e)), (oz (List.map Node.cl r.2.p.nodes)), (oz (List.map Input.cl r.2.p.inputs)), (oz (List.map Flow.cl r.2.p.flows)), (oz (List.map Output.cl r.2.p.outputs))]))) → EC Try.prog 121 [(.pt j0 0)] σ K
def Sat_syntax_reader_expr (F : syntax_reader → Option (Expr × syntax_reader)) : Prop := ∀ (a0 : syntax_reader) (r : (Expr × syntax_reader)), F a0 = some r → Sp_syntax_reader_expr a0 r
def Sp_lex_Words  (r : (List ByteArray)) : Prop := ∀ (σ : Store) (K : PV → Store → Prop), K (.sl (List.map C_s r)) σ → EC Try.prog 122 [] σ K
def Sat_lex_Words (F : Option (List ByteArray)) : Prop := ∀ (r : (List ByteArray)), F = some r → Sp_lex_Words r
def Sp_stringslite_HasPrefix (a0 : ByteArray) (a1 : ByteArray) (r : Bool) : Prop := ∀ (σ : Store) (K : PV → Store → Prop), K (.v (.bool r)) σ → EC Try.prog 126 [(.v (.string a0)), (.v (.string a1))] σ K
def Sat_stringslite_HasPrefix (F : ByteArray → ByteArray → Option Bool) : Prop := ∀ (a0 : ByteArray) (a1 : ByteArray) (r : Bool), F a0 a1 = some r → Sp_stringslite_HasPrefix a0 a1 r
def Sp_syntax_reader_take (a0 : syntax_reader) (r : (lex_Token × syntax_reader)) : Prop := ∀ (σ : Store) (K : PV → Store → Prop) (j0 : Nat), Gx σ j0 (AObj.box 155 [(.sl (List.map lex_Token.cl a0.l)), (.v (.int .i64 a0.end_)), (.v (.int .i64 a0.pos)), (.v (.int .i64 a0.at_)), (.v (.int .i64 a0.e)), (oz (List.map Node.cl a0.p.nodes)), (oz (List.map Input.cl a0.p.inputs)), (oz (List.map Flow.cl a0.p.flows)), (oz (List.map Output.cl a0.p.outputs))]) → K (.ag [(.v (.int .i64 r.1.kind)), (.v (.string r.1.text)), (.v (.int .i64 r.1.n)), (.v (.int .i64 r.1.at_))]) (List.set σ j0 (some (AObj.box 155 [(.sl (List.map lex_Token.cl r.2.l)), (.v (.int .i64 r.2.end_)), (.v (.int .i64 r.2.pos)), (.v (.int .i64 r.2.at_)), (.v (.int .i64 r.2.e)), (oz (List.map Node.cl r.2.p.nodes)), (oz (List.map Input.cl r.2.p.inputs)), (oz (List.map Flow.cl r.2.p.flows)), (oz (List.map Output.cl r.2.p.outputs))]))) → EC Try.prog 127 [(.pt j0 0)] σ K
def Sat_syntax_reader_take (F : syntax_reader → Option (lex_Token × syntax_reader)) : Prop := ∀ (a0 : syntax_reader) (r : (lex_Token × syntax_reader)), F a0 = some r → Sp_syntax_reader_take a0 r
def Sp_slices_Contains_string (a0 : (List ByteArray)) (a1 : ByteArray) (r : Bool) : Prop := ∀ (σ : Store) (K : PV → Store → Prop), K (.v (.bool r)) σ → EC Try.prog 128 [(.sl (List.map C_s a0)), (.v (.string a1))] σ K
def Sat_slices_Contains_string (F : (List ByteArray) → ByteArray → Option Bool) : Prop := ∀ (a0 : (List ByteArray)) (a1 : ByteArray) (r : Bool), F a0 a1 = some r → Sp_slices_Contains_string a0 a1 r
def Sp_syntax_reader_made (a0 : syntax_reader) (a1 : Expr) (r : (Expr × syntax_reader)) : Prop := ∀ (σ : Store) (K : PV → Store → Prop) (j0 : Nat), Gx σ j0 (AObj.box 155 [(.sl (List.map lex_Token.cl a0.l)), (.v (.int .i64 a0.end_)), (.v (.int .i64 a0.pos)), (.v (.int .i64 a0.at_)), (.v (.int .i64 a0.e)), (oz (List.map Node.cl a0.p.nodes)), (oz (List.map Input.cl a0.p.inputs)), (oz (List.map Flow.cl a0.p.flows)), (oz (List.map Output.cl a0.p.outputs))]) → K (.ag [(.v (.int .i64 r.1.kind)), (.v (.string r.1.name)), (.v (.int .i64 r.1.n)), (.v (.int .i64 r.1.d)), (.sl (Expr.rows r.1.args)), (.v (.int .i64 r.1.at_))]) (List.set σ j0 (some (AObj.box 155 [(.sl (List.map lex_Token.cl r.2.l)), (.v (.int .i64 r.2.end_)), (.v (.int .i64 r.2.pos)), (.v (.int .i64 r.2.at_)), (.v (.int .i64 r.2.e)), (oz (List.map Node.cl r.2.p.nodes)), (oz (List.map Input.cl r.2.p.inputs)), (oz (List.map Flow.cl r.2.p.flows)), (oz (List.map Output.cl r.2.p.outputs))]))) → EC Try.prog 130 [(.pt j0 0), (.ag [(.v (.int .i64 a1.kind)), (.v (.string a1.name)), (.v (.int .i64 a1.n)), (.v (.int .i64 a1.d)), (.sl (Expr.rows a1.args)), (.v (.int .i64 a1.at_))])] σ K
def Sat_syntax_reader_made (F : syntax_reader → Expr → Option (Expr × syntax_reader)) : Prop := ∀ (a0 : syntax_reader) (a1 : Expr) (r : (Expr × syntax_reader)), F a0 a1 = some r → Sp_syntax_reader_made a0 a1 r
def Sp_syntax_reader_post (a0 : syntax_reader) (r : (Expr × syntax_reader)) : Prop := ∀ (σ : Store) (K : PV → Store → Prop) (j0 : Nat), Gx σ j0 (AObj.box 155 [(.sl (List.map lex_Token.cl a0.l)), (.v (.int .i64 a0.end_)), (.v (.int .i64 a0.pos)), (.v (.int .i64 a0.at_)), (.v (.int .i64 a0.e)), (oz (List.map Node.cl a0.p.nodes)), (oz (List.map Input.cl a0.p.inputs)), (oz (List.map Flow.cl a0.p.flows)), (oz (List.map Output.cl a0.p.outputs))]) → K (.ag [(.v (.int .i64 r.1.kind)), (.v (.string r.1.name)), (.v (.int .i64 r.1.n)), (.v (.int .i64 r.1.d)), (.sl (Expr.rows r.1.args)), (.v (.int .i64 r.1.at_))]) (List.set σ j0 (some (AObj.box 155 [(.sl (List.map lex_Token.cl r.2.l)), (.v (.int .i64 r.2.end_)), (.v (.int .i64 r.2.pos)), (.v (.int .i64 r.2.at_)), (.v (.int .i64 r.2.e)), (oz (List.map Node.cl r.2.p.nodes)), (oz (List.map Input.cl r.2.p.inputs)), (oz (List.map Flow.cl r.2.p.flows)), (oz (List.map Output.cl r.2.p.outputs))]))) → EC Try.prog 131 [(.pt j0 0)] σ K
def Sat_syntax_reader_post (F : syntax_reader → Option (Expr × syntax_reader)) : Prop := ∀ (a0 : syntax_reader) (r : (Expr × syntax_reader)), F a0 = some r → Sp_syntax_reader_post a0 r
def Sp_slices_Index_string (a0 : (List ByteArray)) (a1 : ByteArray) (r : Int) : Prop := ∀ (σ : Store) (K : PV → Store → Prop), K (.v (.int .i64 r)) σ → EC Try.prog 133 [(.sl (List.map C_s a0)), (.v (.string a1))] σ K
def Sat_slices_Index_string (F : (List ByteArray) → ByteArray → Option Int) : Prop := ∀ (a0 : (List ByteArray)) (a1 : ByteArray) (r : Int), F a0 a1 = some r → Sp_slices_Index_string a0 a1 r
def Sp_syntax_reader_atom (a0 : syntax_reader) (r : (Expr × syntax_reader)) : Prop := ∀ (σ : Store) (K : PV → Store → Prop) (j0 : Nat), Gx σ j0 (AObj.box 155 [(.sl (List.map lex_Token.cl a0.l)), (.v (.int .i64 a0.end_)), (.v (.int .i64 a0.pos)), (.v (.int .i64 a0.at_)), (.v (.int .i64 a0.e)), (oz (List.map Node.cl a0.p.nodes)), (oz (List.map Input.cl a0.p.inputs)), (oz (List.map Flow.cl a0.p.flows)), (oz (List.map Output.cl a0.p.outputs))]) → K (.ag [(.v (.int .i64 r.1.kind)), (.v (.string r.1.name)), (.v (.int .i64 r.1.n)), (.v (.int .i64 r.1.d)), (.sl (Expr.rows r.1.args)), (.v (.int .i64 r.1.at_))]) (List.set σ j0 (some (AObj.box 155 [(.sl (List.map lex_Token.cl r.2.l)), (.v (.int .i64 r.2.end_)), (.v (.int .i64 r.2.pos)), (.v (.int .i64 r.2.at_)), (.v (.int .i64 r.2.e)), (oz (List.map Node.cl r.2.p.nodes)), (oz (List.map Input.cl r.2.p.inputs)), (oz (List.map Flow.cl r.2.p.flows)), (oz (List.map Output.cl r.2.p.outputs))]))) → EC Try.prog 137 [(.pt j0 0)] σ K
def Sat_syntax_reader_atom (F : syntax_reader → Option (Expr × syntax_reader)) : Prop := ∀ (a0 : syntax_reader) (r : (Expr × syntax_reader)), F a0 = some r → Sp_syntax_reader_atom a0 r
def I64 (n : Int) : Prop := -9223372036854775808 ≤ n ∧ n < 9223372036854775808
def U8 (n : Int) : Prop := 0 ≤ n ∧ n < 256
inductive Expr.ok : Expr → Prop
 | mk {e : Expr} : I64 e.kind → ByteArray.size e.name ≤ 140737488351232 → I64 e.n → I64 e.d → List.length e.args * 72 ≤ 140737488351232 → (∀ y ∈ e.args, Expr.ok y) → I64 e.at_ → Expr.ok e
theorem Expr.ok.kind {e : Expr} (h : e.ok) : I64 e.kind := by cases h; first | assumption | (constructor <;> assumption)
theorem Expr.ok.name {e : Expr} (h : e.ok) : ByteArray.size e.name ≤ 140737488351232 := by cases h; first | assumption | (constructor <;> assumption)
theorem Expr.ok.n {e : Expr} (h : e.ok) : I64 e.n := by cases h; first | assumption | (constructor <;> assumption)
theorem Expr.ok.d {e : Expr} (h : e.ok) : I64 e.d := by cases h; first | assumption | (constructor <;> assumption)
theorem Expr.ok.args {e : Expr} (h : e.ok) : List.length e.args * 72 ≤ 140737488351232 ∧ ∀ y ∈ e.args, Expr.ok y := by cases h; first | assumption | (constructor <;> assumption)
theorem Expr.ok.at_ {e : Expr} (h : e.ok) : I64 e.at_ := by cases h; first | assumption | (constructor <;> assumption)
structure Node.ok (x : Node) : Prop where
 name : ByteArray.size x.name ≤ 140737488351232
 params : List.length x.params * 16 ≤ 140737488351232 ∧ ∀ y ∈ x.params, ByteArray.size y ≤ 140737488351232
 budget : I64 x.budget
 body : Expr.ok x.body
 at_ : I64 x.at_
structure Input.ok (x : Input) : Prop where
 name : ByteArray.size x.name ≤ 140737488351232
 period : I64 x.period
 phase : I64 x.phase
 at_ : I64 x.at_
structure Flow.ok (x : Flow) : Prop where
 name : ByteArray.size x.name ≤ 140737488351232
 e : Expr.ok x.e
 at_ : I64 x.at_
structure Output.ok (x : Output) : Prop where
 name : ByteArray.size x.name ≤ 140737488351232
 flow : ByteArray.size x.flow ≤ 140737488351232
 deadline : I64 x.deadline
 at_ : I64 x.at_
structure Program.ok (x : Program) : Prop where
 nodes : List.length x.nodes * 128 ≤ 140737488351232 ∧ ∀ y ∈ x.nodes, Node.ok y
 inputs : List.length x.inputs * 40 ≤ 140737488351232 ∧ ∀ y ∈ x.inputs, Input.ok y
 flows : List.length x.flows * 96 ≤ 140737488351232 ∧ ∀ y ∈ x.flows, Flow.ok y
 outputs : List.length x.outputs * 48 ≤ 140737488351232 ∧ ∀ y ∈ x.outputs, Output.ok y
theorem maxLen_lt : maxLen < 9223372036854775808 := by unfold maxLen; decide
theorem iter_idx {V W : Type} {f : V → Option (V ⊕ W)} (st : Nat → V → Prop) (n : Nat) (Z : W → Prop) (step : ∀ i v, i < n → st i v → (∃ v', f v = some (.inl v') ∧ st (i + 1) v') ∨ ∃ r, f v = some (.inr r) ∧ Z r)
  (fin : ∀ v, st n v → ∃ r, f v = some (.inr r) ∧ Z r) {v0 : V} (h0 : st 0 v0) : ∃ r, iterO f v0 = some r ∧ Z r := by
 have main : ∀ k i v, i + k = n → st i v → ∃ r, iterO f v = some r ∧ Z r := by
  intro k
  induction k with
  | zero =>
   intro i v hi h
   obtain rfl : i = n := by omega
   obtain ⟨r, h1, h2⟩ := fin v h
   exact ⟨r, iterO_end h1, h2⟩
  | succ k ih =>
   intro i v hi h
   rcases step i v (by omega) h with ⟨v', h1, h2⟩ | ⟨r, h1, h2⟩
   ·rw [iterO_next h1]
    exact ih (i + 1) v' (by omega) h2
   ·exact ⟨r, iterO_end h1, h2⟩
 exact main n 0 v0 (by omega) h0
theorem getI_at {α : Type} {xs : List α} {i : Nat} (h : i < xs.length) : getI xs (i : Int) = some xs[i] := by
 unfold getI
 rw [if_pos (by omega), Int.toNat_natCast, List.getElem?_eq_getElem h]
theorem dlt {i n : Nat} (h : i < n) : decide ((i : Int) < (n : Int)) = true := decide_eq_true (by omega)
theorem dge (n : Nat) : decide ((n : Int) < (n : Int)) = false := decide_eq_false (by omega)
theorem winc {i n : Nat} (h : i < n) (hn : n ≤ maxLen) : IntKind.i64.wrap ((i : Int) + 1) = ((i + 1 : Nat) : Int) := wrap_inc h (Nat.lt_of_le_of_lt hn maxLen_lt)
section
variable {α β : Type} {P : α → β → Prop} {a : α} {b : β}
open Classical in
noncomputable def pick (P : α → β → Prop) (a : α) : Option β := if h : ∃ b, P a b then some (Classical.choose h) else none
end
theorem wrap_i {n : Int} (h1 : -9223372036854775808 ≤ n) (h2 : n < 9223372036854775808) : IntKind.i64.wrap n = n := wrap_id h1 h2
theorem ml {n : Nat} (h : n ≤ 140737488351232) : n ≤ maxLen := by unfold maxLen; omega
theorem mlB {n B : Nat} (h : n * B ≤ 140737488351232) (hB : 0 < B) : n ≤ maxLen := ml (Nat.le_trans (Nat.le_mul_of_pos_right n hB) h)
theorem Expr.ok.nm {e : Expr} (h : e.ok) : e.name.size ≤ maxLen := ml h.name
theorem Expr.ok.len {e : Expr} (h : e.ok) : e.args.length ≤ maxLen := mlB h.args.1 (by omega)
theorem Expr.ok.arg {e : Expr} (h : e.ok) : ∀ x ∈ e.args, x.ok := h.args.2
end Go.Proofs.Ytohmmfimedgccaa.E
end
section
namespace Go.Proofs.Ytohmmfimedgccaa.E
set_option maxRecDepth 100000
set_option maxHeartbeats 4000000
set_option linter.unusedVariables false
set_option linter.unusedSimpArgs false
noncomputable def B_lex_in (a0 : Int) (a1 : Bool) : Option Bool :=
 ((((if ((decide ((48 : Int) ≤ a0)) && (decide (a0 ≤ (57 : Int)))) then
  some ((decide ((48 : Int) ≤ a0)) && (decide (a0 ≤ (57 : Int))))
 else
  some (decide (a0 = (95 : Int))) : Option Bool).bind fun v5_10 =>
 if v5_10 then
  some (.inr (.inr ()))
 else
  if ((decide ((97 : Int) ≤ a0)) && (decide (a0 ≤ (122 : Int)))) then
   some (.inr (.inl ()))
  else
   some (.inl ()) : Option (Unit ⊕ Unit ⊕ Unit)).bind fun x => match x with
 | .inl r => some (.inl r)
 | .inr (.inl r) => some (.inr (.inr r))
 | .inr (.inr _) =>
  if a1 then
   some (.inr (.inl false))
  else
   some (.inr (.inr ())) : Option (Unit ⊕ Bool ⊕ Unit)).bind fun x => match x with
 | .inl r => some (.inr r)
 | .inr (.inl r) => some (.inl r)
 | .inr (.inr _) =>
  some (.inl true) : Option (Bool ⊕ Unit)).bind fun x => match x with
 | .inl r => some r
 | .inr _ =>
  some false
theorem W_lex_in : Sat_lex_in (B_lex_in) := by
 intro a0 a1 r h σ K hK
 refine w_fp Try.func107 rfl rfl (by kernel_rfl) ?_
 unfold B_lex_in at h
 have hP := Pre.refl σ
 have E0 : argE [(.v (.int .u8 a0)), (.v (.bool a1))] 0 = (.v (.int .u8 a0)) := rfl
 have E1 : argE [(.v (.int .u8 a0)), (.v (.bool a1))] 1 = (.v (.bool a1)) := rfl
 have TT := cj2 Expr.rlen T_5
 refine w_sa (fun e s => e 0 = (.v (.int .u8 a0)) ∧ e 1 = (.v (.bool a1)) ∧ Pre σ s) ?_ fun e s hI => ?_
 ·refine w_x (cj3 E0 E1 TT) (k := ?_)
  exact cw_n ⟨_, WkE.refl _, (xv (cj3 E0 E1 TT)), (xv (cj3 E0 E1 TT)), hP⟩
 obtain ⟨E0, E1, hP⟩ := hI
 obtain ⟨x1, h2, h⟩ := bnd_some h
 refine w_sa (fun e s => .inr () = x1 ∧ Pre σ s) ?_ fun e s hI => ?_
 ·refine w_block ?_
  obtain ⟨x3, h4, h2⟩ := bnd_some h2
  refine w_sa (fun e s => .inr (.inr ()) = x3 ∧ Pre σ s) ?_ fun e s hI => ?_
  ·refine w_block ?_
   obtain ⟨x5, h6, h4⟩ := bnd_some h4
   refine w_sa (fun e s => .inr (.inr ()) = x5 ∧ e 1 = (.v (.bool a1)) ∧ Pre σ s) ?_ fun e s hI => ?_
   ·refine w_block ?_
    refine w_assoc ?_
    refine w_assoc ?_
    refine w_assoc ?_
    refine w_sa (fun e s => e 0 = (.v (.int .u8 a0)) ∧ e 1 = (.v (.bool a1)) ∧ e 5 = (.v (.bool ((decide ((48 : Int) ≤ a0)) && (decide (a0 ≤ (57 : Int)))))) ∧ Pre σ s) ?_ fun e s hI => ?_
    ·cases hb7 : (decide ((48 : Int) ≤ a0))
     ·refine w_x (cj4 E0 E1 hb7 TT) (k := ?_)
      have q1 := cj4 E0 E1 hb7 TT
      exact cw_n ⟨_, WkE.refl _, (xv q1), (xv q1), (xv q1), hP⟩
     ·refine w_x (cj4 E0 E1 hb7 TT) (k := ?_)
      have q2 := cj4 E0 E1 hb7 TT
      exact cw_n ⟨_, WkE.refl _, (xv q2), (xv q2), (xv q2), hP⟩
    obtain ⟨E0, E1, E5, hP⟩ := hI
    obtain ⟨x8, h9, h6⟩ := bnd_some h6
    refine w_sa (fun e s => ∃ v5_10 : Bool, v5_10 = x8 ∧ e 0 = (.v (.int .u8 a0)) ∧ e 1 = (.v (.bool a1)) ∧ e 5 = (.v (.bool v5_10)) ∧ Pre σ s) ?_ fun e s hI => ?_
    ·rcases ite_some h9 with ⟨hb11, h9⟩ | ⟨hb11, h9⟩
     ·refine xt (cj4 E0 E1 E5 hb11) ?_
      refine w_skip ?_
      obtain rfl := some_inj h9
      exact cw_n ⟨_, WkE.refl _, _, rfl, (xv (cj3 E0 E1 E5)), (xv (cj3 E0 E1 E5)), (xv (cj3 E0 E1 E5)), hP⟩
     ·refine xf (cj4 E0 E1 E5 hb11) ?_
      refine w_x (cj4 E0 E1 E5 TT) (k := ?_)
      obtain rfl := some_inj h9
      have q3 := cj4 E0 E1 E5 TT
      exact cw_n ⟨_, WkE.refl _, _, rfl, (xv q3), (xv q3), (xv q3), hP⟩
    obtain ⟨v5_10, rfl, E0, E1, E5, hP⟩ := hI
    try dsimp only at h6
    refine w_seq ?_
    rcases ite_some h6 with ⟨hb12, h6⟩ | ⟨hb12, h6⟩
    ·refine xt (cj4 E0 E1 E5 hb12) ?_
     refine w_exit ?_
     refine w_sqx ?_
     refine w_bkx ?_
     obtain rfl := some_inj h6
     exact cw_n ⟨_, WkE.refl _, rfl, (xv (cj3 E0 E1 E5)), hP⟩
    ·refine xf (cj4 E0 E1 E5 hb12) ?_
     refine w_skip ?_
     refine w_sq ?_
     refine w_assoc ?_
     refine w_sa (fun e s => e 14 = (.v (.bool ((decide ((97 : Int) ≤ a0)) && (decide (a0 ≤ (122 : Int)))))) ∧ Pre σ s) ?_ fun e s hI => ?_
     ·cases hb13 : (decide ((97 : Int) ≤ a0))
      ·refine w_x (cj5 E0 E1 E5 hb13 TT) (k := ?_)
       exact cw_n ⟨_, WkE.refl _, (xv (cj5 E0 E1 E5 hb13 TT)), hP⟩
      ·refine w_x (cj5 E0 E1 E5 hb13 TT) (k := ?_)
       exact cw_n ⟨_, WkE.refl _, (xv (cj5 E0 E1 E5 hb13 TT)), hP⟩
     obtain ⟨E14, hP⟩ := hI
     refine w_seq ?_
     rcases ite_some h6 with ⟨hb14, h6⟩ | ⟨hb14, h6⟩
     ·refine xt (cj2 E14 hb14) ?_
      refine w_exit ?_
      refine w_sqx ?_
      refine w_bky (by decide) ?_
      obtain rfl := some_inj h6
      refine cw_x ?_
      try dsimp only at h4
      refine w_bkx ?_
      obtain rfl := some_inj h4
      exact cw_n ⟨_, WkE.refl _, rfl, hP⟩
     ·refine xf (cj2 E14 hb14) ?_
      refine w_skip ?_
      refine w_sq ?_
      refine w_exit ?_
      refine w_bky (by decide) ?_
      obtain rfl := some_inj h6
      refine cw_x ?_
      try dsimp only at h4
      refine w_bky (by decide) ?_
      obtain rfl := some_inj h4
      refine cw_x ?_
      try dsimp only at h2
      refine w_bkx ?_
      obtain rfl := some_inj h2
      exact cw_n ⟨_, WkE.refl _, rfl, hP⟩
   obtain ⟨rfl, E1, hP⟩ := hI
   try dsimp only at h4
   refine w_sa (fun e s => e 21 = (.v (.bool a1)) ∧ Pre σ s) ?_ fun e s hI => ?_
   ·refine w_x (cj2 E1 TT) (k := ?_)
    exact cw_n ⟨_, WkE.refl _, (xv (cj2 E1 TT)), hP⟩
   obtain ⟨E21, hP⟩ := hI
   rcases ite_some h4 with ⟨hb15, h4⟩ | ⟨hb15, h4⟩
   ·refine xt (cj2 E21 hb15) ?_
    refine w_sa (fun e s => e 4 = (.v (.bool false)) ∧ Pre σ s) ?_ fun e s hI => ?_
    ·refine w_x (cj2 E21 TT) (k := ?_)
     exact cw_n ⟨_, WkE.refl _, (xv (cj2 E21 TT)), hP⟩
    obtain ⟨E4, hP⟩ := hI
    refine w_ret ?_
    refine w_bkr ?_
    obtain rfl := some_inj h4
    refine cw_r ?_
    try dsimp only at h2
    refine w_bkr ?_
    obtain rfl := some_inj h2
    refine cw_r ?_
    try dsimp only at h
    obtain rfl := some_inj h
    exact w_fin (fun _ => rfl) (xr (rs := #[.tmp 4]) E4) hP (r' := (.v (.bool false))) (.refl _) (.v _) hK
   ·refine xf (cj2 E21 hb15) ?_
    refine w_skip ?_
    refine w_bk ?_
    obtain rfl := some_inj h4
    exact cw_n ⟨_, WkE.refl _, rfl, hP⟩
  obtain ⟨rfl, hP⟩ := hI
  try dsimp only at h2
  refine w_seq ?_
  refine w_sa (fun e s => e 4 = (.v (.bool true)) ∧ Pre σ s) ?_ fun e s hI => ?_
  ·refine w_x Expr.rlen (k := ?_)
   exact cw_n ⟨_, WkE.refl _, (xv Expr.rlen), hP⟩
  obtain ⟨E4, hP⟩ := hI
  refine w_ret ?_
  refine w_sqr ?_
  refine w_bkr ?_
  obtain rfl := some_inj h2
  refine cw_r ?_
  try dsimp only at h
  obtain rfl := some_inj h
  exact w_fin (fun _ => rfl) (xr (rs := #[.tmp 4]) E4) hP (r' := (.v (.bool true))) (.refl _) (.v _) hK
 obtain ⟨rfl, hP⟩ := hI
 try dsimp only at h
 refine w_sa (fun e s => e 4 = (.v (.bool false)) ∧ Pre σ s) ?_ fun e s hI => ?_
 ·refine w_x Expr.rlen (k := ?_)
  exact cw_n ⟨_, WkE.refl _, (xv Expr.rlen), hP⟩
 obtain ⟨E4, hP⟩ := hI
 refine w_ret ?_
 obtain rfl := some_inj h
 exact w_fin (fun _ => rfl) (xr (rs := #[.tmp 4]) E4) hP (r' := (.v (.bool false))) (.refl _) (.v _) hK
noncomputable def B_lex_next_c1 (f_lex_in : Int → Bool → Option Bool) (a0 : Int) : Option Bool :=
 (f_lex_in a0 false).bind fun y1 =>
 some y1
theorem W_lex_next_c1 (f_lex_in : Int → Bool → Option Bool) (S_lex_in : Sat_lex_in f_lex_in) : Sat_lex_next_c1 (B_lex_next_c1 f_lex_in) := by
 intro a0 r h σ K hK
 refine w_fp Try.func109 rfl rfl (by kernel_rfl) ?_
 unfold B_lex_next_c1 at h
 have hP := Pre.refl σ
 have E0 : argE [(.v (.int .u8 a0))] 0 = (.v (.int .u8 a0)) := rfl
 have TT := cj3 Expr.rlen T_4 T_5
 refine w_sa (fun e s => e 0 = (.v (.int .u8 a0)) ∧ Pre σ s) ?_ fun e s hI => ?_
 ·refine w_x (cj2 E0 TT) (k := ?_)
  exact cw_n ⟨_, WkE.refl _, (xv (cj2 E0 TT)), hP⟩
 obtain ⟨E0, hP⟩ := hI
 obtain ⟨y1, h2, h⟩ := bnd_some h
 refine w_sa (fun e s => e 2 = (.v (.bool y1)) ∧ Pre σ s) ?_ fun e s hI => ?_
 ·refine w_x (cj2 E0 TT) (k := ?_)
  refine EC.wka (.cons (.refl _) (.cons (.refl _) .nil)) (S_lex_in _ _ _ h2 _ _  ?_)
  refine w_y (cj2 E0 TT) (k := ?_)
  exact cw_n ⟨_, WkE.refl _, (xv (cj2 E0 TT)), hP⟩
 obtain ⟨E2, hP⟩ := hI
 refine w_ret ?_
 obtain rfl := some_inj h
 exact w_fin (fun _ => rfl) (xr (rs := #[.tmp 2]) E2) hP (r' := (.v (.bool y1))) (.refl _) (.v _) hK
noncomputable def B_lex_digit (a0 : Int) : Option Bool :=
 some ((decide ((48 : Int) ≤ a0)) && (decide (a0 ≤ (57 : Int))))
theorem W_lex_digit : Sat_lex_digit (B_lex_digit) := by
 intro a0 r h σ K hK
 refine w_fp Try.func110 rfl rfl (by kernel_rfl) ?_
 unfold B_lex_digit at h
 have hP := Pre.refl σ
 have E0 : argE [(.v (.int .u8 a0))] 0 = (.v (.int .u8 a0)) := rfl
 have TT := cj2 Expr.rlen T_5
 refine w_sa (fun e s => e 0 = (.v (.int .u8 a0)) ∧ Pre σ s) ?_ fun e s hI => ?_
 ·refine w_x (cj2 E0 TT) (k := ?_)
  exact cw_n ⟨_, WkE.refl _, (xv (cj2 E0 TT)), hP⟩
 obtain ⟨E0, hP⟩ := hI
 refine w_sa (fun e s => e 2 = (.v (.bool ((decide ((48 : Int) ≤ a0)) && (decide (a0 ≤ (57 : Int)))))) ∧ Pre σ s) ?_ fun e s hI => ?_
 ·cases hb1 : (decide ((48 : Int) ≤ a0))
  ·refine w_x (cj3 E0 hb1 TT) (k := ?_)
   exact cw_n ⟨_, WkE.refl _, (xv (cj3 E0 hb1 TT)), hP⟩
  ·refine w_x (cj3 E0 hb1 TT) (k := ?_)
   exact cw_n ⟨_, WkE.refl _, (xv (cj3 E0 hb1 TT)), hP⟩
 obtain ⟨E2, hP⟩ := hI
 refine w_ret ?_
 obtain rfl := some_inj h
 exact w_fin (fun _ => rfl) (xr (rs := #[.tmp 2]) E2) hP (r' := (.v (.bool ((decide ((48 : Int) ≤ a0)) && (decide (a0 ≤ (57 : Int))))))) (.refl _) (.v _) hK
noncomputable def lex_while_L0 (a0 : ByteArray) (a1 : (Int → Option Bool)) : Int → Option (Int ⊕ Int)
 | vn_4 =>
  (if (decide (vn_4 < ((ByteArray.size a0 : Nat) : Int))) then
   (getB a0 vn_4).bind fun y7 =>
   (a1 y7).bind fun y9 =>
   some y9
  else
   some false).bind fun w11 =>
  if ((decide (vn_4 < ((ByteArray.size a0 : Nat) : Int))) && w11) then
   (some (IntKind.i64.wrap (vn_4 + (1 : Int))) : Option Int).bind fun vn_18 =>
   some (.inl vn_18)
  else
   some (.inr vn_4)
noncomputable def B_lex_while (a0 : ByteArray) (a1 : (Int → Option Bool)) : Option Int :=
 (iterO (lex_while_L0 a0 a1) (0 : Int) : Option Int).bind fun vn_3 =>
 some vn_3
theorem W_lex_while : Sat_lex_while (B_lex_while) := by
 intro a0 a1 r h σ K fid1 caps1 hg1 hK
 refine w_fp Try.func108 rfl rfl (by kernel_rfl) ?_
 unfold B_lex_while at h
 have hP := Pre.refl σ
 have E0 : argE [(.v (.string a0)), (.fn fid1 [] caps1)] 0 = (.v (.string a0)) := rfl
 have E1 : argE [(.v (.string a0)), (.fn fid1 [] caps1)] 1 = (.fn fid1 [] caps1) := rfl
 have TT := cj4 Expr.rlen T_3 T_5 T_9
 refine w_sa (fun e s => e 0 = (.v (.string a0)) ∧ e 1 = (.fn fid1 [] caps1) ∧ Pre σ s) ?_ fun e s hI => ?_
 ·refine w_x (cj3 E0 E1 TT) (k := ?_)
  exact cw_n ⟨_, WkE.refl _, (xv (cj3 E0 E1 TT)), (xv (cj3 E0 E1 TT)), hP⟩
 obtain ⟨E0, E1, hP⟩ := hI
 refine w_sa (fun e s => e 0 = (.v (.string a0)) ∧ e 1 = (.fn fid1 [] caps1) ∧ e 5 = (.v (.int .i64 (0 : Int))) ∧ Pre σ s) ?_ fun e s hI => ?_
 ·refine w_x (cj3 E0 E1 TT) (k := ?_)
  exact cw_n ⟨_, WkE.refl _, (xv (cj3 E0 E1 TT)), (xv (cj3 E0 E1 TT)), (xv (cj3 E0 E1 TT)), hP⟩
 obtain ⟨E0, E1, E5, hP⟩ := hI
 obtain ⟨x1, h2, h⟩ := bnd_some h
 refine w_sa (fun e s => ∃ vn_3 : Int, vn_3 = x1 ∧ e 5 = (.v (.int .i64 vn_3)) ∧ Pre σ s) ?_ fun e s hI => ?_
 ·refine w_block ?_
  refine w_iter h2 (fun v e s => ∃ vn_4 : Int, vn_4 = v ∧ e 0 = (.v (.string a0)) ∧ e 1 = (.fn fid1 [] caps1) ∧ e 5 = (.v (.int .i64 vn_4)) ∧ Pre σ s) ⟨_, WkE.refl _, _, rfl, (xv (cj3 E0 E1 E5)), (xv (cj3 E0 E1 E5)), (xv (cj3 E0 E1 E5)), hP⟩ fun v x5 e s hf6 hI => ?_
  obtain ⟨vn_4, rfl, E0, E1, E5, hP⟩ := hI
  unfold lex_while_L0 at hf6
  try dsimp only at hf6
  refine w_assoc ?_
  obtain ⟨w11, h12, hf6⟩ := bnd_some hf6
  refine w_sa (fun e s => e 0 = (.v (.string a0)) ∧ e 1 = (.fn fid1 [] caps1) ∧ e 5 = (.v (.int .i64 vn_4)) ∧ e 16 = (.v (.bool ((decide (vn_4 < ((ByteArray.size a0 : Nat) : Int))) && w11))) ∧ Pre σ s) ?_ fun e s hI => ?_
  ·cases hb13 : (decide (vn_4 < ((ByteArray.size a0 : Nat) : Int)))
   ·replace h12 := ite_f (by simp only [hb13, Bool.or_true, Bool.true_or, Bool.or_false, Bool.false_or, Bool.and_true, Bool.true_and, Bool.and_false, Bool.false_and, Bool.not_true, Bool.not_false, cond_true, cond_false]) h12
    obtain rfl := some_inj h12
    refine w_x (cj5 E0 E1 E5 hb13 TT) (k := ?_)
    have q1 := cj5 E0 E1 E5 hb13 TT
    exact cw_n ⟨_, WkE.refl _, (xv q1), (xv q1), (xv q1), (xv q1), hP⟩
   ·replace h12 := ite_t (by simp only [hb13, Bool.or_true, Bool.true_or, Bool.or_false, Bool.false_or, Bool.and_true, Bool.true_and, Bool.and_false, Bool.false_and, Bool.not_true, Bool.not_false, cond_true, cond_false]) h12
    obtain ⟨y7, h8, h12⟩ := bnd_some h12
    obtain ⟨y9, h10, h12⟩ := bnd_some h12
    obtain rfl := some_inj h12
    obtain ⟨k14a, k14b, k14c, k14d⟩ := getB_some h8
    refine w_x (cj8 E0 E1 E5 hb13 k14a k14c k14d TT) (k := ?_)
    refine EC.wka (.cons (.refl _) (WkL.refl _)) (hg1 _  _ h10  _ _ hP ?_)
    refine w_y (cj8 E0 E1 E5 hb13 k14a k14c k14d TT) (k := ?_)
    have q2 := cj8 E0 E1 E5 hb13 k14a k14c k14d TT
    exact cw_n ⟨_, WkE.refl _, (xv q2), (xv q2), (xv q2), (xv q2), hP⟩
  obtain ⟨E0, E1, E5, E16, hP⟩ := hI
  refine w_seq ?_
  rcases ite_some hf6 with ⟨hb15, hf6⟩ | ⟨hb15, hf6⟩
  ·refine xt (cj5 E0 E1 E5 E16 hb15) ?_
   refine w_skip ?_
   refine w_sq ?_
   obtain ⟨x16, h17, hf6⟩ := bnd_some hf6
   refine w_an (fun e s => ∃ vn_18 : Int, vn_18 = x16 ∧ e 0 = (.v (.string a0)) ∧ e 1 = (.fn fid1 [] caps1) ∧ e 5 = (.v (.int .i64 vn_18)) ∧ Pre σ s) ?_ fun e s hI => ?_
   ·refine w_block ?_
    refine w_x (cj5 E0 E1 E5 E16 TT) (k := ?_)
    refine w_bk ?_
    obtain rfl := some_inj h17
    have q3 := cj5 E0 E1 E5 E16 TT
    exact ct_n ⟨_, rfl, (xv q3), (xv q3), (xv q3), hP⟩
   obtain ⟨vn_18, rfl, E0, E1, E5, hP⟩ := hI
   try dsimp only at hf6
   obtain rfl := some_inj hf6
   exact iq_n rfl ⟨_, WkE.refl _, _, rfl, (xv (cj3 E0 E1 E5)), (xv (cj3 E0 E1 E5)), (xv (cj3 E0 E1 E5)), hP⟩
  ·refine xf (cj5 E0 E1 E5 E16 hb15) ?_
   refine w_exit ?_
   refine w_sqx ?_
   obtain rfl := some_inj hf6
   refine iq_x rfl fun hr19 => ?_
   obtain rfl := hr19
   refine w_bkx ?_
   exact cw_n ⟨_, WkE.refl _, _, rfl, (xv (cj4 E0 E1 E5 E16)), hP⟩
 obtain ⟨vn_3, rfl, E5, hP⟩ := hI
 try dsimp only at h
 refine w_sa (fun e s => e 4 = (.v (.int .i64 vn_3)) ∧ Pre σ s) ?_ fun e s hI => ?_
 ·refine w_x (cj2 E5 TT) (k := ?_)
  exact cw_n ⟨_, WkE.refl _, (xv (cj2 E5 TT)), hP⟩
 obtain ⟨E4, hP⟩ := hI
 refine w_ret ?_
 obtain rfl := some_inj h
 exact w_fin (fun _ => rfl) (xr (rs := #[.tmp 4]) E4) hP (r' := (.v (.int .i64 vn_3))) (.refl _) (.v _) hK
noncomputable def lex_number_L0 (a0 : ByteArray) : (Int × Int) → Option ((Int × Int) ⊕ ((Int × Bool) ⊕ Int))
 | (vn_4, v10_5) =>
  if (decide (v10_5 < ((List.length (strInts a0) : Nat) : Int))) then
   ((getI (strInts a0) v10_5).bind fun y12 =>
   if (decide ((1000000000 : Int) < (IntKind.i64.wrap ((IntKind.i64.wrap (vn_4 * (10 : Int))) + (IntKind.i64.wrap (IntKind.u8.wrap (y12 - (48 : Int)))))))) then
    some (.inl ((0 : Int), false))
   else
    some (.inr (IntKind.i64.wrap ((IntKind.i64.wrap (vn_4 * (10 : Int))) + (IntKind.i64.wrap (IntKind.u8.wrap (y12 - (48 : Int))))))) : Option ((Int × Bool) ⊕ Int)).bind fun x => match x with
   | .inl r => some (.inr (.inl r))
   | .inr vn_11 =>
    some (.inl (vn_11, (IntKind.i64.wrap (v10_5 + (1 : Int)))))
  else
   some (.inr (.inr vn_4))
noncomputable def B_lex_number (a0 : ByteArray) : Option (Int × Bool) :=
 (iterO (lex_number_L0 a0) ((0 : Int), (0 : Int)) : Option ((Int × Bool) ⊕ Int)).bind fun x => match x with
 | .inl r => some r
 | .inr vn_3 =>
  some (vn_3, true)
theorem W_lex_number : Sat_lex_number (B_lex_number) := by
 intro a0 r h σ K hK
 refine w_fp Try.func111 rfl rfl (by kernel_rfl) ?_
 unfold B_lex_number at h
 have hP := Pre.refl σ
 have E0 : argE [(.v (.string a0))] 0 = (.v (.string a0)) := rfl
 have TT := cj6 Expr.rlen T_2 T_3 T_5 T_89 T_9
 refine w_sa (fun e s => e 0 = (.v (.string a0)) ∧ Pre σ s) ?_ fun e s hI => ?_
 ·refine w_x (cj2 E0 TT) (k := ?_)
  exact cw_n ⟨_, WkE.refl _, (xv (cj2 E0 TT)), hP⟩
 obtain ⟨E0, hP⟩ := hI
 refine w_sa (fun e s => e 0 = (.v (.string a0)) ∧ e 4 = (.v (.int .i64 (0 : Int))) ∧ Pre σ s) ?_ fun e s hI => ?_
 ·refine w_x (cj2 E0 TT) (k := ?_)
  exact cw_n ⟨_, WkE.refl _, (xv (cj2 E0 TT)), (xv (cj2 E0 TT)), hP⟩
 obtain ⟨E0, E4, hP⟩ := hI
 refine w_assoc ?_
 refine w_sa (fun e s => e 4 = (.v (.int .i64 (0 : Int))) ∧ e 8 = (.sl (List.map C_u8 (strInts a0))) ∧ e 9 = (.v (.int .i64 ((List.length (strInts a0) : Nat) : Int))) ∧ e 10 = (.v (.int .i64 (0 : Int))) ∧ Pre σ s) ?_ fun e s hI => ?_
 ·refine w_x (cj4 E0 E4 (s2b_rows a0) TT) (k := ?_)
  have q1 := cj4 E0 E4 (s2b_rows a0) TT
  exact cw_n ⟨_, WkE.refl _, (xv q1), (xv q1), (xv q1), (xv q1), hP⟩
 obtain ⟨E4, E8, E9, E10, hP⟩ := hI
 obtain ⟨x1, h2, h⟩ := bnd_some h
 refine w_sa (fun e s => ∃ vn_3 : Int, .inr vn_3 = x1 ∧ e 4 = (.v (.int .i64 vn_3)) ∧ Pre σ s) ?_ fun e s hI => ?_
 ·refine w_block ?_
  have q2 := cj4 E4 E8 E9 E10
  refine w_iter h2 (fun v e s => ∃ vn_4 : Int, ∃ v10_5 : Int, (vn_4, v10_5) = v ∧ e 4 = (.v (.int .i64 vn_4)) ∧ e 8 = (.sl (List.map C_u8 (strInts a0))) ∧ e 9 = (.v (.int .i64 ((List.length (strInts a0) : Nat) : Int))) ∧ e 10 = (.v (.int .i64 v10_5)) ∧ Pre σ s) ⟨_, WkE.refl _, _, _, rfl, (xv q2), (xv q2), (xv q2), (xv q2), hP⟩ fun v x6 e s hf7 hI => ?_
  obtain ⟨vn_4, v10_5, rfl, E4, E8, E9, E10, hP⟩ := hI
  unfold lex_number_L0 at hf7
  try dsimp only at hf7
  refine w_sa (fun e s => e 4 = (.v (.int .i64 vn_4)) ∧ e 8 = (.sl (List.map C_u8 (strInts a0))) ∧ e 9 = (.v (.int .i64 ((List.length (strInts a0) : Nat) : Int))) ∧ e 10 = (.v (.int .i64 v10_5)) ∧ e 11 = (.v (.bool (decide (v10_5 < ((List.length (strInts a0) : Nat) : Int))))) ∧ Pre σ s) ?_ fun e s hI => ?_
  ·refine w_x (cj5 E4 E8 E9 E10 TT) (k := ?_)
   have q3 := cj5 E4 E8 E9 E10 TT
   exact cw_n ⟨_, WkE.refl _, (xv q3), (xv q3), (xv q3), (xv q3), (xv q3), hP⟩
  obtain ⟨E4, E8, E9, E10, E11, hP⟩ := hI
  refine w_seq ?_
  rcases ite_some hf7 with ⟨hb8, hf7⟩ | ⟨hb8, hf7⟩
  ·refine xt (cj6 E4 E8 E9 E10 E11 hb8) ?_
   refine w_skip ?_
   refine w_sq ?_
   obtain ⟨x9, h10, hf7⟩ := bnd_some hf7
   refine w_sa (fun e s => ∃ vn_11 : Int, .inr vn_11 = x9 ∧ e 4 = (.v (.int .i64 vn_11)) ∧ e 8 = (.sl (List.map C_u8 (strInts a0))) ∧ e 9 = (.v (.int .i64 ((List.length (strInts a0) : Nat) : Int))) ∧ e 10 = (.v (.int .i64 v10_5)) ∧ Pre σ s) ?_ fun e s hI => ?_
   ·refine w_block ?_
    obtain ⟨y12, h13, h10⟩ := bnd_some h10
    refine w_sa (fun e s => e 4 = (.v (.int .i64 vn_4)) ∧ e 6 = (.v (.int .u8 y12)) ∧ e 8 = (.sl (List.map C_u8 (strInts a0))) ∧ e 9 = (.v (.int .i64 ((List.length (strInts a0) : Nat) : Int))) ∧ e 10 = (.v (.int .i64 v10_5)) ∧ Pre σ s) ?_ fun e s hI => ?_
    ·have R14 : (List.map C_u8 (strInts a0))[(v10_5).toNat]? = some [(.v (.int .u8 y12))] := map_get (getI_some h13).2
     refine w_x (cj8 E4 E8 E9 E10 E11 R14 (getI_some h13).1 TT) (k := ?_)
     have q4 := cj8 E4 E8 E9 E10 E11 R14 (getI_some h13).1 TT
     exact cw_n ⟨_, WkE.refl _, (xv q4), (xv q4), (xv q4), (xv q4), (xv q4), hP⟩
    obtain ⟨E4, E6, E8, E9, E10, hP⟩ := hI
    refine w_sa (fun e s => e 4 = (.v (.int .i64 (IntKind.i64.wrap ((IntKind.i64.wrap (vn_4 * (10 : Int))) + (IntKind.i64.wrap (IntKind.u8.wrap (y12 - (48 : Int)))))))) ∧ e 8 = (.sl (List.map C_u8 (strInts a0))) ∧ e 9 = (.v (.int .i64 ((List.length (strInts a0) : Nat) : Int))) ∧ e 10 = (.v (.int .i64 v10_5)) ∧ Pre σ s) ?_ fun e s hI => ?_
    ·refine w_x (cj6 E4 E6 E8 E9 E10 TT) (k := ?_)
     have q5 := cj6 E4 E6 E8 E9 E10 TT
     exact cw_n ⟨_, WkE.refl _, (xv q5), (xv q5), (xv q5), (xv q5), hP⟩
    obtain ⟨E4, E8, E9, E10, hP⟩ := hI
    refine w_sa (fun e s => e 4 = (.v (.int .i64 (IntKind.i64.wrap ((IntKind.i64.wrap (vn_4 * (10 : Int))) + (IntKind.i64.wrap (IntKind.u8.wrap (y12 - (48 : Int)))))))) ∧ e 8 = (.sl (List.map C_u8 (strInts a0))) ∧ e 9 = (.v (.int .i64 ((List.length (strInts a0) : Nat) : Int))) ∧ e 10 = (.v (.int .i64 v10_5)) ∧ e 21 = (.v (.bool (decide ((1000000000 : Int) < (IntKind.i64.wrap ((IntKind.i64.wrap (vn_4 * (10 : Int))) + (IntKind.i64.wrap (IntKind.u8.wrap (y12 - (48 : Int)))))))))) ∧ Pre σ s) ?_ fun e s hI => ?_
    ·refine w_x (cj5 E4 E8 E9 E10 TT) (k := ?_)
     have q6 := cj5 E4 E8 E9 E10 TT
     exact cw_n ⟨_, WkE.refl _, (xv q6), (xv q6), (xv q6), (xv q6), (xv q6), hP⟩
    obtain ⟨E4, E8, E9, E10, E21, hP⟩ := hI
    rcases ite_some h10 with ⟨hb15, h10⟩ | ⟨hb15, h10⟩
    ·refine xt (cj6 E4 E8 E9 E10 E21 hb15) ?_
     refine w_sa (fun e s => e 2 = (.v (.int .i64 (0 : Int))) ∧ e 3 = (.v (.bool false)) ∧ Pre σ s) ?_ fun e s hI => ?_
     ·refine w_x (cj6 E4 E8 E9 E10 E21 TT) (k := ?_)
      exact cw_n ⟨_, WkE.refl _, (xv (cj6 E4 E8 E9 E10 E21 TT)), (xv (cj6 E4 E8 E9 E10 E21 TT)), hP⟩
     obtain ⟨E2, E3, hP⟩ := hI
     refine w_ret ?_
     refine w_bkr ?_
     obtain rfl := some_inj h10
     refine cw_r ?_
     try dsimp only at hf7
     obtain rfl := some_inj hf7
     refine iq_r rfl fun hr16 => ?_
     obtain rfl := hr16
     refine w_bkr ?_
     refine cw_r ?_
     try dsimp only at h
     obtain rfl := some_inj h
     exact w_fin (fun _ => rfl) (xr (rs := #[.tmp 2, .tmp 3]) (cj2 E2 E3)) hP (r' := (.tu [(.v (.int .i64 (0 : Int))), (.v (.bool false))])) (.refl _) (.tu (CnL.cons (.v _) (CnL.cons (.v _) CnL.nil))) hK
    ·refine xf (cj6 E4 E8 E9 E10 E21 hb15) ?_
     refine w_skip ?_
     refine w_bk ?_
     obtain rfl := some_inj h10
     have q7 := cj5 E4 E8 E9 E10 E21
     exact cw_n ⟨_, WkE.refl _, _, rfl, (xv q7), (xv q7), (xv q7), (xv q7), hP⟩
   obtain ⟨vn_11, rfl, E4, E8, E9, E10, hP⟩ := hI
   try dsimp only at hf7
   refine w_x (cj5 E4 E8 E9 E10 TT) (k := ?_)
   obtain rfl := some_inj hf7
   have q8 := cj5 E4 E8 E9 E10 TT
   exact iq_n rfl ⟨_, WkE.refl _, _, _, rfl, (xv q8), (xv q8), (xv q8), (xv q8), hP⟩
  ·refine xf (cj6 E4 E8 E9 E10 E11 hb8) ?_
   refine w_exit ?_
   refine w_sqx ?_
   obtain rfl := some_inj hf7
   refine iq_x rfl fun hr17 => ?_
   obtain rfl := hr17
   refine w_bkx ?_
   exact cw_n ⟨_, WkE.refl _, _, rfl, (xv (cj5 E4 E8 E9 E10 E11)), hP⟩
 obtain ⟨vn_3, rfl, E4, hP⟩ := hI
 try dsimp only at h
 refine w_sa (fun e s => e 2 = (.v (.int .i64 vn_3)) ∧ e 3 = (.v (.bool true)) ∧ Pre σ s) ?_ fun e s hI => ?_
 ·refine w_x (cj2 E4 TT) (k := ?_)
  exact cw_n ⟨_, WkE.refl _, (xv (cj2 E4 TT)), (xv (cj2 E4 TT)), hP⟩
 obtain ⟨E2, E3, hP⟩ := hI
 refine w_ret ?_
 obtain rfl := some_inj h
 exact w_fin (fun _ => rfl) (xr (rs := #[.tmp 2, .tmp 3]) (cj2 E2 E3)) hP (r' := (.tu [(.v (.int .i64 vn_3)), (.v (.bool true))])) (.refl _) (.tu (CnL.cons (.v _) (CnL.cons (.v _) CnL.nil))) hK
def lex_signs_K0 : (List ByteArray) := [(⟨#[42, 94]⟩ : ByteArray), (⟨#[47, 94]⟩ : ByteArray), (⟨#[126, 62]⟩ : ByteArray), (⟨#[58, 58]⟩ : ByteArray), (⟨#[61, 61]⟩ : ByteArray), (⟨#[40]⟩ : ByteArray), (⟨#[41]⟩ : ByteArray), (⟨#[123]⟩ : ByteArray), (⟨#[125]⟩ : ByteArray), (⟨#[44]⟩ : ByteArray), (⟨#[59]⟩ : ByteArray), (⟨#[61]⟩ : ByteArray), (⟨#[43]⟩ : ByteArray), (⟨#[45]⟩ : ByteArray), (⟨#[42]⟩ : ByteArray), (⟨#[47]⟩ : ByteArray), (⟨#[37]⟩ : ByteArray), (⟨#[60]⟩ : ByteArray), (⟨#[63]⟩ : ByteArray), (⟨#[58]⟩ : ByteArray)]
noncomputable def B_lex_signs : Option (List ByteArray) :=
 some lex_signs_K0
theorem W_lex_signs : Sat_lex_signs (B_lex_signs) := by
 intro r h σ K hK
 refine w_fp Try.func112 rfl rfl (by kernel_rfl) ?_
 unfold B_lex_signs at h
 have hP := Pre.refl σ
 have TT := cj3 Expr.rlen T_9 T_97
 refine w_sa (fun e s => Pre σ s) ?_ fun e s hI => ?_
 ·refine w_x Expr.rlen (k := ?_)
  exact cw_n ⟨_, WkE.refl _, hP⟩
 have hP := hI
 refine w_sa (fun e s => e 0 = (.sl (List.map C_s lex_signs_K0)) ∧ Pre σ s) ?_ fun e s hI => ?_
 ·refine w_x TT (k := ?_)
  exact cw_n ⟨_, WkE.upd (WkE.refl _) (t := 0) (p := (.sl [[(.v (.string (⟨#[42, 94]⟩ : ByteArray)))], [(.v (.string (⟨#[47, 94]⟩ : ByteArray)))], [(.v (.string (⟨#[126, 62]⟩ : ByteArray)))], [(.v (.string (⟨#[58, 58]⟩ : ByteArray)))], [(.v (.string (⟨#[61, 61]⟩ : ByteArray)))], [(.v (.string (⟨#[40]⟩ : ByteArray)))], [(.v (.string (⟨#[41]⟩ : ByteArray)))], [(.v (.string (⟨#[123]⟩ : ByteArray)))], [(.v (.string (⟨#[125]⟩ : ByteArray)))], [(.v (.string (⟨#[44]⟩ : ByteArray)))], [(.v (.string (⟨#[59]⟩ : ByteArray)))], [(.v (.string (⟨#[61]⟩ : ByteArray)))], [(.v (.string (⟨#[43]⟩ : ByteArray)))], [(.v (.string (⟨#[45]⟩ : ByteArray)))], [(.v (.string (⟨#[42]⟩ : ByteArray)))], [(.v (.string (⟨#[47]⟩ : ByteArray)))], [(.v (.string (⟨#[37]⟩ : ByteArray)))], [(.v (.string (⟨#[60]⟩ : ByteArray)))], [(.v (.string (⟨#[63]⟩ : ByteArray)))], [(.v (.string (⟨#[58]⟩ : ByteArray)))]])) (q := (.sl (List.map C_s lex_signs_K0))) (xv TT) (Wk.of_eq rfl), (xv TT), hP⟩
 obtain ⟨E0, hP⟩ := hI
 refine w_ret ?_
 obtain rfl := some_inj h
 exact w_fin (fun _ => rfl) (xr (rs := #[.tmp 0]) E0) hP (r' := (.sl (List.map C_s lex_signs_K0))) (.refl _) (Cn.rows (fun _ => CnL.cons (.v _) CnL.nil) _) hK
noncomputable def B_strings_HasPrefix (f_stringslite_HasPrefix : ByteArray → ByteArray → Option Bool) (a0 : ByteArray) (a1 : ByteArray) : Option Bool :=
 (f_stringslite_HasPrefix a0 a1).bind fun y1 =>
 some y1
theorem W_strings_HasPrefix (f_stringslite_HasPrefix : ByteArray → ByteArray → Option Bool) (S_stringslite_HasPrefix : Sat_stringslite_HasPrefix f_stringslite_HasPrefix) : Sat_strings_HasPrefix (B_strings_HasPrefix f_stringslite_HasPrefix) := by
 intro a0 a1 r h σ K hK
 refine w_fp Try.func113 rfl rfl (by kernel_rfl) ?_
 unfold B_strings_HasPrefix at h
 have hP := Pre.refl σ
 have E0 : argE [(.v (.string a0)), (.v (.string a1))] 0 = (.v (.string a0)) := rfl
 have E1 : argE [(.v (.string a0)), (.v (.string a1))] 1 = (.v (.string a1)) := rfl
 have TT := cj2 Expr.rlen T_9
 refine w_sa (fun e s => e 0 = (.v (.string a0)) ∧ e 1 = (.v (.string a1)) ∧ Pre σ s) ?_ fun e s hI => ?_
 ·refine w_x (cj3 E0 E1 TT) (k := ?_)
  exact cw_n ⟨_, WkE.refl _, (xv (cj3 E0 E1 TT)), (xv (cj3 E0 E1 TT)), hP⟩
 obtain ⟨E0, E1, hP⟩ := hI
 obtain ⟨y1, h2, h⟩ := bnd_some h
 refine w_sa (fun e s => e 4 = (.v (.bool y1)) ∧ Pre σ s) ?_ fun e s hI => ?_
 ·refine w_x (cj3 E0 E1 TT) (k := ?_)
  refine EC.wka (.cons (.refl _) (.cons (.refl _) .nil)) (S_stringslite_HasPrefix _ _ _ h2 _ _  ?_)
  refine w_y (cj3 E0 E1 TT) (k := ?_)
  exact cw_n ⟨_, WkE.refl _, (xv (cj3 E0 E1 TT)), hP⟩
 obtain ⟨E4, hP⟩ := hI
 refine w_ret ?_
 obtain rfl := some_inj h
 exact w_fin (fun _ => rfl) (xr (rs := #[.tmp 4]) E4) hP (r' := (.v (.bool y1))) (.refl _) (.v _) hK
noncomputable def B_stringslite_HasPrefix (a0 : ByteArray) (a1 : ByteArray) : Option Bool :=
 (if (decide (((ByteArray.size a1 : Nat) : Int) ≤ ((ByteArray.size a0 : Nat) : Int))) then
  (subS a0 (0 : Int) ((ByteArray.size a1 : Nat) : Int)).bind fun y1 =>
  some (decide (y1 = a1))
 else
  some false).bind fun w3 =>
 some ((decide (((ByteArray.size a1 : Nat) : Int) ≤ ((ByteArray.size a0 : Nat) : Int))) && w3)
theorem W_stringslite_HasPrefix : Sat_stringslite_HasPrefix (B_stringslite_HasPrefix) := by
 intro a0 a1 r h σ K hK
 refine w_fp Try.func126 rfl rfl (by kernel_rfl) ?_
 unfold B_stringslite_HasPrefix at h
 have hP := Pre.refl σ
 have E0 : argE [(.v (.string a0)), (.v (.string a1))] 0 = (.v (.string a0)) := rfl
 have E1 : argE [(.v (.string a0)), (.v (.string a1))] 1 = (.v (.string a1)) := rfl
 have TT := cj3 Expr.rlen T_3 T_9
 refine w_sa (fun e s => e 0 = (.v (.string a0)) ∧ e 1 = (.v (.string a1)) ∧ Pre σ s) ?_ fun e s hI => ?_
 ·refine w_x (cj3 E0 E1 TT) (k := ?_)
  exact cw_n ⟨_, WkE.refl _, (xv (cj3 E0 E1 TT)), (xv (cj3 E0 E1 TT)), hP⟩
 obtain ⟨E0, E1, hP⟩ := hI
 obtain ⟨w3, h4, h⟩ := bnd_some h
 refine w_sa (fun e s => e 4 = (.v (.bool ((decide (((ByteArray.size a1 : Nat) : Int) ≤ ((ByteArray.size a0 : Nat) : Int))) && w3))) ∧ Pre σ s) ?_ fun e s hI => ?_
 ·cases hb5 : (decide (((ByteArray.size a1 : Nat) : Int) ≤ ((ByteArray.size a0 : Nat) : Int)))
  ·replace h4 := ite_f (by simp only [hb5, Bool.or_true, Bool.true_or, Bool.or_false, Bool.false_or, Bool.and_true, Bool.true_and, Bool.and_false, Bool.false_and, Bool.not_true, Bool.not_false, cond_true, cond_false]) h4
   obtain rfl := some_inj h4
   refine w_x (cj4 E0 E1 hb5 TT) (k := ?_)
   exact cw_n ⟨_, WkE.refl _, (xv (cj4 E0 E1 hb5 TT)), hP⟩
  ·replace h4 := ite_t (by simp only [hb5, Bool.or_true, Bool.true_or, Bool.or_false, Bool.false_or, Bool.and_true, Bool.true_and, Bool.and_false, Bool.false_and, Bool.not_true, Bool.not_false, cond_true, cond_false]) h4
   obtain ⟨y1, h2, h4⟩ := bnd_some h4
   obtain rfl := some_inj h4
   refine w_x (cj6 E0 E1 hb5 (subS_some h2).1 (subS_some h2).2 TT) (k := ?_)
   exact cw_n ⟨_, WkE.refl _, (xv (cj6 E0 E1 hb5 (subS_some h2).1 (subS_some h2).2 TT)), hP⟩
 obtain ⟨E4, hP⟩ := hI
 refine w_ret ?_
 obtain rfl := some_inj h
 exact w_fin (fun _ => rfl) (xr (rs := #[.tmp 4]) E4) hP (r' := (.v (.bool ((decide (((ByteArray.size a1 : Nat) : Int) ≤ ((ByteArray.size a0 : Nat) : Int))) && w3)))) (.refl _) (.v _) hK
noncomputable def lex_next_L0 (y26 : (List ByteArray)) (a0 : ByteArray) (f_strings_HasPrefix : ByteArray → ByteArray → Option Bool) : (Int × lex_Token) → Option ((Int × lex_Token) ⊕ ((lex_Token × Int) ⊕ lex_Token))
 | (v41_31, v2_32) =>
  if (decide (v41_31 < ((List.length y26 : Nat) : Int))) then
   ((getI y26 v41_31).bind fun y39 =>
   (f_strings_HasPrefix a0 y39).bind fun y42 =>
   if y42 then
    some (.inl ((lex_Token.mk (3 : Int) y39 (0 : Int) (0 : Int)), (0 : Int)))
   else
    some (.inr v2_32) : Option ((lex_Token × Int) ⊕ lex_Token)).bind fun x => match x with
   | .inl r => some (.inr (.inl r))
   | .inr v2_38 =>
    some (.inl ((IntKind.i64.wrap (v41_31 + (1 : Int))), v2_38))
  else
   some (.inr (.inr v2_32))
noncomputable def B_lex_next (f_lex_in : Int → Bool → Option Bool) (f_lex_while : ByteArray → (Int → Option Bool) → Option Int) (f_lex_next_c1 : Int → Option Bool) (f_lex_digit : Int → Option Bool) (f_lex_number : ByteArray → Option (Int × Bool)) (f_lex_signs : Option (List ByteArray)) (f_strings_HasPrefix : ByteArray → ByteArray → Option Bool) (a0 : ByteArray) : Option (lex_Token × Int) :=
 (getB a0 (0 : Int)).bind fun y1 =>
 (f_lex_in y1 true).bind fun y3 =>
 if y3 then
  (f_lex_while a0 (fun z0 => f_lex_next_c1 z0)).bind fun y7 =>
  (subS a0 (0 : Int) y7).bind fun y9 =>
  some ((lex_Token.mk (1 : Int) y9 (0 : Int) (0 : Int)), (0 : Int))
 else
  (getB a0 (0 : Int)).bind fun y11 =>
  (f_lex_digit y11).bind fun y13 =>
  if y13 then
   (f_lex_while a0 (fun z0 => f_lex_digit z0)).bind fun y17 =>
   (subS a0 (0 : Int) y17).bind fun y19 =>
   (f_lex_number y19).bind fun y21 =>
   if (!y21.2) then
    some ((lex_Token.mk (0 : Int) (⟨#[]⟩ : ByteArray) (0 : Int) (0 : Int)), (7 : Int))
   else
    (subS a0 (0 : Int) y17).bind fun y24 =>
    some ((lex_Token.mk (2 : Int) y24 y21.1 (0 : Int)), (0 : Int))
  else
   (f_lex_signs).bind fun y26 =>
   (iterO (lex_next_L0 y26 a0 f_strings_HasPrefix) ((0 : Int), (lex_Token.mk (0 : Int) (⟨#[]⟩ : ByteArray) (0 : Int) (0 : Int))) : Option ((lex_Token × Int) ⊕ lex_Token)).bind fun x => match x with
   | .inl r => some r
   | .inr v2_30 =>
    some ((lex_Token.mk (0 : Int) (⟨#[]⟩ : ByteArray) (0 : Int) (0 : Int)), (1 : Int))
theorem W_lex_next (f_lex_in : Int → Bool → Option Bool) (f_lex_while : ByteArray → (Int → Option Bool) → Option Int) (f_lex_next_c1 : Int → Option Bool) (f_lex_digit : Int → Option Bool) (f_lex_number : ByteArray → Option (Int × Bool)) (f_lex_signs : Option (List ByteArray)) (f_strings_HasPrefix : ByteArray → ByteArray → Option Bool) (S_lex_in : Sat_lex_in f_lex_in) (S_lex_while : Sat_lex_while f_lex_while) (S_lex_next_c1 : Sat_lex_next_c1 f_lex_next_c1) (S_lex_digit : Sat_lex_digit f_lex_digit) (S_lex_number : Sat_lex_number f_lex_number) (S_lex_signs : Sat_lex_signs f_lex_signs) (S_strings_HasPrefix : Sat_strings_HasPrefix f_strings_HasPrefix) : Sat_lex_next (B_lex_next f_lex_in f_lex_while f_lex_next_c1 f_lex_digit f_lex_number f_lex_signs f_strings_HasPrefix) := by
 intro a0 r h σ K hK
 refine w_fp Try.func78 rfl rfl (by kernel_rfl) ?_
 unfold B_lex_next at h
 have hP := Pre.refl σ
 have E0 : argE [(.v (.string a0))] 0 = (.v (.string a0)) := rfl
 have TT := cj9 Expr.rlen T_158 T_2 T_3 T_4 T_5 T_85 T_9 T_97
 refine w_sa (fun e s => ∃ i2 : Nat, Bx σ s i2 85 [(.v (.int .i64 (0 : Int))), (.v (.string (⟨#[]⟩ : ByteArray))), (.v (.int .i64 (0 : Int))), (.v (.int .i64 (0 : Int)))] ∧ e 0 = (.v (.string a0)) ∧ e 2 = (.pt i2 0) ∧ Pre σ s) ?_ fun e s hI => ?_
 ·refine w_x (cj2 E0 TT) (k := ?_)
  exact cw_n ⟨_, WkE.refl _, σ.length, (Bx.new hP 85 [(.v (.int .i64 (0 : Int))), (.v (.string (⟨#[]⟩ : ByteArray))), (.v (.int .i64 (0 : Int))), (.v (.int .i64 (0 : Int)))]), (xv (cj2 E0 TT)), (xv (cj2 E0 TT)), (hP.app _)⟩
 obtain ⟨i2, X2, E0, E2, hP⟩ := hI
 refine w_assoc ?_
 obtain ⟨y1, h2, h⟩ := bnd_some h
 obtain ⟨y3, h4, h⟩ := bnd_some h
 refine w_sa (fun e s => Bx σ s i2 85 [(.v (.int .i64 (0 : Int))), (.v (.string (⟨#[]⟩ : ByteArray))), (.v (.int .i64 (0 : Int))), (.v (.int .i64 (0 : Int)))] ∧ e 0 = (.v (.string a0)) ∧ e 2 = (.pt i2 0) ∧ e 12 = (.v (.bool y3)) ∧ Pre σ s) ?_ fun e s hI => ?_
 ·obtain ⟨k5a, k5b, k5c, k5d⟩ := getB_some h2
  refine w_x (cj7 E0 E2 X2.get k5a k5c k5d TT) (k := ?_)
  refine EC.wka (.cons (.refl _) (.cons (.refl _) .nil)) (S_lex_in _ _ _ h4 _ _  ?_)
  refine w_y (cj7 E0 E2 X2.get k5a k5c k5d TT) (k := ?_)
  have q1 := cj7 E0 E2 X2.get k5a k5c k5d TT
  exact cw_n ⟨_, WkE.refl _, X2, (xv q1), (xv q1), (xv q1), hP⟩
 obtain ⟨X2, E0, E2, E12, hP⟩ := hI
 refine w_seq ?_
 rcases ite_some h with ⟨hb6, h⟩ | ⟨hb6, h⟩
 ·refine xt (cj4 E0 E2 E12 hb6) ?_
  obtain ⟨y7, h8, h⟩ := bnd_some h
  refine w_sa (fun e s => Bx σ s i2 85 [(.v (.int .i64 (0 : Int))), (.v (.string (⟨#[]⟩ : ByteArray))), (.v (.int .i64 (0 : Int))), (.v (.int .i64 (0 : Int)))] ∧ e 0 = (.v (.string a0)) ∧ e 2 = (.pt i2 0) ∧ e 4 = (.v (.int .i64 y7)) ∧ Pre σ s) ?_ fun e s hI => ?_
  ·refine w_x (cj5 E0 E2 E12 X2.get TT) (k := ?_)
   refine EC.wka (.cons (.refl _) (.cons (.refl _) .nil)) (S_lex_while _ _ _ h8 _ _ _ _ (fun z0 b hg s' K hq hk => by obtain ⟨ex, rfl⟩ := hq; exact S_lex_next_c1 z0 b hg _ _   hk) ?_)
   refine w_y (cj5 E0 E2 E12 X2.get TT) (k := ?_)
   have q2 := cj5 E0 E2 E12 X2.get TT
   exact cw_n ⟨_, WkE.refl _, X2, (xv q2), (xv q2), (xv q2), hP⟩
  obtain ⟨X2, E0, E2, E4, hP⟩ := hI
  obtain ⟨y9, h10, h⟩ := bnd_some h
  refine w_sa (fun e s => Bx σ s i2 85 [(.v (.int .i64 (1 : Int))), (.v (.string y9)), (.v (.int .i64 (0 : Int))), (.v (.int .i64 (0 : Int)))] ∧ e 2 = (.pt i2 0) ∧ e 3 = (.v (.int .i64 (0 : Int))) ∧ Pre σ s) ?_ fun e s hI => ?_
  ·refine w_x (cj8 E0 E2 E4 X2.get (subS_some h10).1 (subS_some h10).2 (X2.same 85 [(.v (.int .i64 (1 : Int))), (.v (.string y9)), (.v (.int .i64 (0 : Int))), (.v (.int .i64 (0 : Int)))]).get TT) (k := ?_)
   have q3 := X2.same 85 [(.v (.int .i64 (1 : Int))), (.v (.string y9)), (.v (.int .i64 (0 : Int))), (.v (.int .i64 (0 : Int)))]
   have q4 := cj8 E0 E2 E4 X2.get (subS_some h10).1 (subS_some h10).2 q3.get TT
   exact cw_n ⟨_, WkE.refl _, q3, (xv q4), (xv q4), (hP.set X2.le (some (AObj.box 85 [(.v (.int .i64 (1 : Int))), (.v (.string y9)), (.v (.int .i64 (0 : Int))), (.v (.int .i64 (0 : Int)))])))⟩
  obtain ⟨X2, E2, E3, hP⟩ := hI
  refine w_ret ?_
  refine w_sqr ?_
  obtain rfl := some_inj h
  exact w_fin (fun _ => rfl) (xr (rs := #[.cell 2 85, .tmp 3]) (cj4 X2.get E2 E3 TT)) hP (r' := (.tu [(.ag [(.v (.int .i64 (1 : Int))), (.v (.string y9)), (.v (.int .i64 (0 : Int))), (.v (.int .i64 (0 : Int)))]), (.v (.int .i64 (0 : Int)))])) (.refl _) (.tu (CnL.cons (.ag (CnL.cons (.v _) (CnL.cons (.v _) (CnL.cons (.v _) (CnL.cons (.v _) CnL.nil))))) (CnL.cons (.v _) CnL.nil))) hK
 ·refine xf (cj4 E0 E2 E12 hb6) ?_
  refine w_skip ?_
  refine w_sq ?_
  refine w_assoc ?_
  obtain ⟨y11, h12, h⟩ := bnd_some h
  obtain ⟨y13, h14, h⟩ := bnd_some h
  refine w_sa (fun e s => Bx σ s i2 85 [(.v (.int .i64 (0 : Int))), (.v (.string (⟨#[]⟩ : ByteArray))), (.v (.int .i64 (0 : Int))), (.v (.int .i64 (0 : Int)))] ∧ e 0 = (.v (.string a0)) ∧ e 2 = (.pt i2 0) ∧ e 21 = (.v (.bool y13)) ∧ Pre σ s) ?_ fun e s hI => ?_
  ·obtain ⟨k15a, k15b, k15c, k15d⟩ := getB_some h12
   refine w_x (cj8 E0 E2 E12 X2.get k15a k15c k15d TT) (k := ?_)
   refine EC.wka (.cons (.refl _) .nil) (S_lex_digit _ _ h14 _ _  ?_)
   refine w_y (cj8 E0 E2 E12 X2.get k15a k15c k15d TT) (k := ?_)
   have q5 := cj8 E0 E2 E12 X2.get k15a k15c k15d TT
   exact cw_n ⟨_, WkE.refl _, X2, (xv q5), (xv q5), (xv q5), hP⟩
  obtain ⟨X2, E0, E2, E21, hP⟩ := hI
  refine w_seq ?_
  rcases ite_some h with ⟨hb16, h⟩ | ⟨hb16, h⟩
  ·refine xt (cj4 E0 E2 E21 hb16) ?_
   obtain ⟨y17, h18, h⟩ := bnd_some h
   refine w_sa (fun e s => Bx σ s i2 85 [(.v (.int .i64 (0 : Int))), (.v (.string (⟨#[]⟩ : ByteArray))), (.v (.int .i64 (0 : Int))), (.v (.int .i64 (0 : Int)))] ∧ e 0 = (.v (.string a0)) ∧ e 2 = (.pt i2 0) ∧ e 5 = (.v (.int .i64 y17)) ∧ Pre σ s) ?_ fun e s hI => ?_
   ·refine w_x (cj5 E0 E2 E21 X2.get TT) (k := ?_)
    refine EC.wka (.cons (.refl _) (.cons (.refl _) .nil)) (S_lex_while _ _ _ h18 _ _ _ _ (fun z0 b hg s' K hq hk => by obtain ⟨ex, rfl⟩ := hq; exact S_lex_digit z0 b hg _ _   hk) ?_)
    refine w_y (cj5 E0 E2 E21 X2.get TT) (k := ?_)
    have q6 := cj5 E0 E2 E21 X2.get TT
    exact cw_n ⟨_, WkE.refl _, X2, (xv q6), (xv q6), (xv q6), hP⟩
   obtain ⟨X2, E0, E2, E5, hP⟩ := hI
   obtain ⟨y19, h20, h⟩ := bnd_some h
   obtain ⟨y21, h22, h⟩ := bnd_some h
   refine w_sa (fun e s => Bx σ s i2 85 [(.v (.int .i64 (0 : Int))), (.v (.string (⟨#[]⟩ : ByteArray))), (.v (.int .i64 (0 : Int))), (.v (.int .i64 (0 : Int)))] ∧ e 0 = (.v (.string a0)) ∧ e 2 = (.pt i2 0) ∧ e 5 = (.v (.int .i64 y17)) ∧ e 6 = (.v (.int .i64 y21.1)) ∧ e 7 = (.v (.bool y21.2)) ∧ Pre σ s) ?_ fun e s hI => ?_
   ·refine w_x (cj7 E0 E2 E5 X2.get (subS_some h20).1 (subS_some h20).2 TT) (k := ?_)
    refine EC.wka (.cons (.refl _) .nil) (S_lex_number _ _ h22 _ _  ?_)
    refine w_y (cj7 E0 E2 E5 X2.get (subS_some h20).1 (subS_some h20).2 TT) (k := ?_)
    have q7 := cj7 E0 E2 E5 X2.get (subS_some h20).1 (subS_some h20).2 TT
    exact cw_n ⟨_, WkE.refl _, X2, (xv q7), (xv q7), (xv q7), (xv q7), (xv q7), hP⟩
   obtain ⟨X2, E0, E2, E5, E6, E7, hP⟩ := hI
   refine w_assoc ?_
   refine w_sa (fun e s => Bx σ s i2 85 [(.v (.int .i64 (0 : Int))), (.v (.string (⟨#[]⟩ : ByteArray))), (.v (.int .i64 (0 : Int))), (.v (.int .i64 (0 : Int)))] ∧ e 0 = (.v (.string a0)) ∧ e 2 = (.pt i2 0) ∧ e 5 = (.v (.int .i64 y17)) ∧ e 6 = (.v (.int .i64 y21.1)) ∧ e 32 = (.v (.bool (!y21.2))) ∧ Pre σ s) ?_ fun e s hI => ?_
   ·refine w_x (cj7 E0 E2 E5 E6 E7 X2.get TT) (k := ?_)
    have q8 := cj7 E0 E2 E5 E6 E7 X2.get TT
    exact cw_n ⟨_, WkE.refl _, X2, (xv q8), (xv q8), (xv q8), (xv q8), (xv q8), hP⟩
   obtain ⟨X2, E0, E2, E5, E6, E32, hP⟩ := hI
   refine w_seq ?_
   rcases ite_some h with ⟨hb23, h⟩ | ⟨hb23, h⟩
   ·refine xt (cj6 E0 E2 E5 E6 E32 hb23) ?_
    refine w_sa (fun e s => Bx σ s i2 85 [(.v (.int .i64 (0 : Int))), (.v (.string (⟨#[]⟩ : ByteArray))), (.v (.int .i64 (0 : Int))), (.v (.int .i64 (0 : Int)))] ∧ e 2 = (.pt i2 0) ∧ e 3 = (.v (.int .i64 (7 : Int))) ∧ Pre σ s) ?_ fun e s hI => ?_
    ·refine w_x (cj8 E0 E2 E5 E6 E32 X2.get (X2.same 85 [(.v (.int .i64 (0 : Int))), (.v (.string (⟨#[]⟩ : ByteArray))), (.v (.int .i64 (0 : Int))), (.v (.int .i64 (0 : Int)))]).get TT) (k := ?_)
     have q9 := X2.same 85 [(.v (.int .i64 (0 : Int))), (.v (.string (⟨#[]⟩ : ByteArray))), (.v (.int .i64 (0 : Int))), (.v (.int .i64 (0 : Int)))]
     have q10 := cj8 E0 E2 E5 E6 E32 X2.get q9.get TT
     exact cw_n ⟨_, WkE.refl _, q9, (xv q10), (xv q10), (hP.set X2.le (some (AObj.box 85 [(.v (.int .i64 (0 : Int))), (.v (.string (⟨#[]⟩ : ByteArray))), (.v (.int .i64 (0 : Int))), (.v (.int .i64 (0 : Int)))])))⟩
    obtain ⟨X2, E2, E3, hP⟩ := hI
    refine w_ret ?_
    refine w_sqr ?_
    refine w_sqr ?_
    obtain rfl := some_inj h
    exact w_fin (fun _ => rfl) (xr (rs := #[.cell 2 85, .tmp 3]) (cj4 X2.get E2 E3 TT)) hP (r' := (.tu [(.ag [(.v (.int .i64 (0 : Int))), (.v (.string (⟨#[]⟩ : ByteArray))), (.v (.int .i64 (0 : Int))), (.v (.int .i64 (0 : Int)))]), (.v (.int .i64 (7 : Int)))])) (.refl _) (.tu (CnL.cons (.ag (CnL.cons (.v _) (CnL.cons (.v _) (CnL.cons (.v _) (CnL.cons (.v _) CnL.nil))))) (CnL.cons (.v _) CnL.nil))) hK
   ·refine xf (cj6 E0 E2 E5 E6 E32 hb23) ?_
    refine w_skip ?_
    refine w_sq ?_
    obtain ⟨y24, h25, h⟩ := bnd_some h
    refine w_sa (fun e s => Bx σ s i2 85 [(.v (.int .i64 (2 : Int))), (.v (.string y24)), (.v (.int .i64 y21.1)), (.v (.int .i64 (0 : Int)))] ∧ e 2 = (.pt i2 0) ∧ e 3 = (.v (.int .i64 (0 : Int))) ∧ Pre σ s) ?_ fun e s hI => ?_
    ·refine w_x (cj10 E0 E2 E5 E6 E32 X2.get (subS_some h25).1 (subS_some h25).2 (X2.same 85 [(.v (.int .i64 (2 : Int))), (.v (.string y24)), (.v (.int .i64 y21.1)), (.v (.int .i64 (0 : Int)))]).get TT) (k := ?_)
     have q11 := X2.same 85 [(.v (.int .i64 (2 : Int))), (.v (.string y24)), (.v (.int .i64 y21.1)), (.v (.int .i64 (0 : Int)))]
     have q12 := cj10 E0 E2 E5 E6 E32 X2.get (subS_some h25).1 (subS_some h25).2 q11.get TT
     exact cw_n ⟨_, WkE.refl _, q11, (xv q12), (xv q12), (hP.set X2.le (some (AObj.box 85 [(.v (.int .i64 (2 : Int))), (.v (.string y24)), (.v (.int .i64 y21.1)), (.v (.int .i64 (0 : Int)))])))⟩
    obtain ⟨X2, E2, E3, hP⟩ := hI
    refine w_ret ?_
    refine w_sqr ?_
    obtain rfl := some_inj h
    exact w_fin (fun _ => rfl) (xr (rs := #[.cell 2 85, .tmp 3]) (cj4 X2.get E2 E3 TT)) hP (r' := (.tu [(.ag [(.v (.int .i64 (2 : Int))), (.v (.string y24)), (.v (.int .i64 y21.1)), (.v (.int .i64 (0 : Int)))]), (.v (.int .i64 (0 : Int)))])) (.refl _) (.tu (CnL.cons (.ag (CnL.cons (.v _) (CnL.cons (.v _) (CnL.cons (.v _) (CnL.cons (.v _) CnL.nil))))) (CnL.cons (.v _) CnL.nil))) hK
  ·refine xf (cj4 E0 E2 E21 hb16) ?_
   refine w_skip ?_
   refine w_sq ?_
   refine w_assoc ?_
   obtain ⟨y26, h27, h⟩ := bnd_some h
   refine w_sa (fun e s => Bx σ s i2 85 [(.v (.int .i64 (0 : Int))), (.v (.string (⟨#[]⟩ : ByteArray))), (.v (.int .i64 (0 : Int))), (.v (.int .i64 (0 : Int)))] ∧ e 0 = (.v (.string a0)) ∧ e 2 = (.pt i2 0) ∧ e 39 = (.sl (List.map C_s y26)) ∧ e 40 = (.v (.int .i64 ((List.length y26 : Nat) : Int))) ∧ e 41 = (.v (.int .i64 (0 : Int))) ∧ Pre σ s) ?_ fun e s hI => ?_
   ·refine w_x (cj5 E0 E2 E21 X2.get TT) (k := ?_)
    refine EC.wka .nil (S_lex_signs _ h27 _ _  ?_)
    refine w_y (cj5 E0 E2 E21 X2.get TT) (k := ?_)
    have q13 := cj5 E0 E2 E21 X2.get TT
    exact cw_n ⟨_, WkE.refl _, X2, (xv q13), (xv q13), (xv q13), (xv q13), (xv q13), hP⟩
   obtain ⟨X2, E0, E2, E39, E40, E41, hP⟩ := hI
   obtain ⟨x28, h29, h⟩ := bnd_some h
   refine w_sa (fun e s => ∃ v2_30 : lex_Token, .inr v2_30 = x28 ∧ Bx σ s i2 85 [(.v (.int .i64 v2_30.kind)), (.v (.string v2_30.text)), (.v (.int .i64 v2_30.n)), (.v (.int .i64 v2_30.at_))] ∧ e 2 = (.pt i2 0) ∧ Pre σ s) ?_ fun e s hI => ?_
   ·refine w_block ?_
    have q14 := cj5 E0 E2 E39 E40 E41
    refine w_iter h29 (fun v e s => ∃ v41_31 : Int, ∃ v2_32 : lex_Token, (v41_31, v2_32) = v ∧ Bx σ s i2 85 [(.v (.int .i64 v2_32.kind)), (.v (.string v2_32.text)), (.v (.int .i64 v2_32.n)), (.v (.int .i64 v2_32.at_))] ∧ e 0 = (.v (.string a0)) ∧ e 2 = (.pt i2 0) ∧ e 39 = (.sl (List.map C_s y26)) ∧ e 40 = (.v (.int .i64 ((List.length y26 : Nat) : Int))) ∧ e 41 = (.v (.int .i64 v41_31)) ∧ Pre σ s) ⟨_, WkE.refl _, _, _, rfl, X2, (xv q14), (xv q14), (xv q14), (xv q14), (xv q14), hP⟩ fun v x33 e s hf34 hI => ?_
    obtain ⟨v41_31, v2_32, rfl, X2, E0, E2, E39, E40, E41, hP⟩ := hI
    unfold lex_next_L0 at hf34
    try dsimp only at hf34
    refine w_sa (fun e s => Bx σ s i2 85 [(.v (.int .i64 v2_32.kind)), (.v (.string v2_32.text)), (.v (.int .i64 v2_32.n)), (.v (.int .i64 v2_32.at_))] ∧ e 0 = (.v (.string a0)) ∧ e 2 = (.pt i2 0) ∧ e 39 = (.sl (List.map C_s y26)) ∧ e 40 = (.v (.int .i64 ((List.length y26 : Nat) : Int))) ∧ e 41 = (.v (.int .i64 v41_31)) ∧ e 42 = (.v (.bool (decide (v41_31 < ((List.length y26 : Nat) : Int))))) ∧ Pre σ s) ?_ fun e s hI => ?_
    ·refine w_x (cj7 E0 E2 E39 E40 E41 X2.get TT) (k := ?_)
     have q15 := cj7 E0 E2 E39 E40 E41 X2.get TT
     exact cw_n ⟨_, WkE.refl _, X2, (xv q15), (xv q15), (xv q15), (xv q15), (xv q15), (xv q15), hP⟩
    obtain ⟨X2, E0, E2, E39, E40, E41, E42, hP⟩ := hI
    refine w_seq ?_
    rcases ite_some hf34 with ⟨hb35, hf34⟩ | ⟨hb35, hf34⟩
    ·refine xt (cj7 E0 E2 E39 E40 E41 E42 hb35) ?_
     refine w_skip ?_
     refine w_sq ?_
     obtain ⟨x36, h37, hf34⟩ := bnd_some hf34
     refine w_sa (fun e s => ∃ v2_38 : lex_Token, .inr v2_38 = x36 ∧ Bx σ s i2 85 [(.v (.int .i64 v2_38.kind)), (.v (.string v2_38.text)), (.v (.int .i64 v2_38.n)), (.v (.int .i64 v2_38.at_))] ∧ e 0 = (.v (.string a0)) ∧ e 2 = (.pt i2 0) ∧ e 39 = (.sl (List.map C_s y26)) ∧ e 40 = (.v (.int .i64 ((List.length y26 : Nat) : Int))) ∧ e 41 = (.v (.int .i64 v41_31)) ∧ Pre σ s) ?_ fun e s hI => ?_
     ·refine w_block ?_
      obtain ⟨y39, h40, h37⟩ := bnd_some h37
      refine w_sa (fun e s => Bx σ s i2 85 [(.v (.int .i64 v2_32.kind)), (.v (.string v2_32.text)), (.v (.int .i64 v2_32.n)), (.v (.int .i64 v2_32.at_))] ∧ e 0 = (.v (.string a0)) ∧ e 2 = (.pt i2 0) ∧ e 9 = (.v (.string y39)) ∧ e 39 = (.sl (List.map C_s y26)) ∧ e 40 = (.v (.int .i64 ((List.length y26 : Nat) : Int))) ∧ e 41 = (.v (.int .i64 v41_31)) ∧ Pre σ s) ?_ fun e s hI => ?_
      ·have R41 : (List.map C_s y26)[(v41_31).toNat]? = some [(.v (.string y39))] := map_get (getI_some h40).2
       refine w_x (cj10 E0 E2 E39 E40 E41 E42 X2.get R41 (getI_some h40).1 TT) (k := ?_)
       have q16 := cj10 E0 E2 E39 E40 E41 E42 X2.get R41 (getI_some h40).1 TT
       exact cw_n ⟨_, WkE.refl _, X2, (xv q16), (xv q16), (xv q16), (xv q16), (xv q16), (xv q16), hP⟩
      obtain ⟨X2, E0, E2, E9, E39, E40, E41, hP⟩ := hI
      obtain ⟨y42, h43, h37⟩ := bnd_some h37
      refine w_sa (fun e s => Bx σ s i2 85 [(.v (.int .i64 v2_32.kind)), (.v (.string v2_32.text)), (.v (.int .i64 v2_32.n)), (.v (.int .i64 v2_32.at_))] ∧ e 0 = (.v (.string a0)) ∧ e 2 = (.pt i2 0) ∧ e 9 = (.v (.string y39)) ∧ e 39 = (.sl (List.map C_s y26)) ∧ e 40 = (.v (.int .i64 ((List.length y26 : Nat) : Int))) ∧ e 41 = (.v (.int .i64 v41_31)) ∧ e 47 = (.v (.bool y42)) ∧ Pre σ s) ?_ fun e s hI => ?_
      ·refine w_x (cj8 E0 E2 E9 E39 E40 E41 X2.get TT) (k := ?_)
       refine EC.wka (.cons (.refl _) (.cons (.refl _) .nil)) (S_strings_HasPrefix _ _ _ h43 _ _  ?_)
       refine w_y (cj8 E0 E2 E9 E39 E40 E41 X2.get TT) (k := ?_)
       have q17 := cj8 E0 E2 E9 E39 E40 E41 X2.get TT
       exact cw_n ⟨_, WkE.refl _, X2, (xv q17), (xv q17), (xv q17), (xv q17), (xv q17), (xv q17), (xv q17), hP⟩
      obtain ⟨X2, E0, E2, E9, E39, E40, E41, E47, hP⟩ := hI
      rcases ite_some h37 with ⟨hb44, h37⟩ | ⟨hb44, h37⟩
      ·refine xt (cj8 E0 E2 E9 E39 E40 E41 E47 hb44) ?_
       refine w_sa (fun e s => Bx σ s i2 85 [(.v (.int .i64 (3 : Int))), (.v (.string y39)), (.v (.int .i64 (0 : Int))), (.v (.int .i64 (0 : Int)))] ∧ e 2 = (.pt i2 0) ∧ e 3 = (.v (.int .i64 (0 : Int))) ∧ Pre σ s) ?_ fun e s hI => ?_
       ·refine w_x (cj10 E0 E2 E9 E39 E40 E41 E47 X2.get (X2.same 85 [(.v (.int .i64 (3 : Int))), (.v (.string y39)), (.v (.int .i64 (0 : Int))), (.v (.int .i64 (0 : Int)))]).get TT) (k := ?_)
        have q18 := X2.same 85 [(.v (.int .i64 (3 : Int))), (.v (.string y39)), (.v (.int .i64 (0 : Int))), (.v (.int .i64 (0 : Int)))]
        have q19 := cj10 E0 E2 E9 E39 E40 E41 E47 X2.get q18.get TT
        exact cw_n ⟨_, WkE.refl _, q18, (xv q19), (xv q19), (hP.set X2.le (some (AObj.box 85 [(.v (.int .i64 (3 : Int))), (.v (.string y39)), (.v (.int .i64 (0 : Int))), (.v (.int .i64 (0 : Int)))])))⟩
       obtain ⟨X2, E2, E3, hP⟩ := hI
       refine w_ret ?_
       refine w_bkr ?_
       obtain rfl := some_inj h37
       refine cw_r ?_
       try dsimp only at hf34
       obtain rfl := some_inj hf34
       refine iq_r rfl fun hr45 => ?_
       obtain rfl := hr45
       refine w_bkr ?_
       refine cw_r ?_
       try dsimp only at h
       obtain rfl := some_inj h
       exact w_fin (fun _ => rfl) (xr (rs := #[.cell 2 85, .tmp 3]) (cj4 X2.get E2 E3 TT)) hP (r' := (.tu [(.ag [(.v (.int .i64 (3 : Int))), (.v (.string y39)), (.v (.int .i64 (0 : Int))), (.v (.int .i64 (0 : Int)))]), (.v (.int .i64 (0 : Int)))])) (.refl _) (.tu (CnL.cons (.ag (CnL.cons (.v _) (CnL.cons (.v _) (CnL.cons (.v _) (CnL.cons (.v _) CnL.nil))))) (CnL.cons (.v _) CnL.nil))) hK
      ·refine xf (cj8 E0 E2 E9 E39 E40 E41 E47 hb44) ?_
       refine w_skip ?_
       refine w_bk ?_
       obtain rfl := some_inj h37
       have q20 := cj7 E0 E2 E9 E39 E40 E41 E47
       exact cw_n ⟨_, WkE.refl _, _, rfl, X2, (xv q20), (xv q20), (xv q20), (xv q20), (xv q20), hP⟩
     obtain ⟨v2_38, rfl, X2, E0, E2, E39, E40, E41, hP⟩ := hI
     try dsimp only at hf34
     refine w_x (cj7 E0 E2 E39 E40 E41 X2.get TT) (k := ?_)
     obtain rfl := some_inj hf34
     have q21 := cj7 E0 E2 E39 E40 E41 X2.get TT
     exact iq_n rfl ⟨_, WkE.refl _, _, _, rfl, X2, (xv q21), (xv q21), (xv q21), (xv q21), (xv q21), hP⟩
    ·refine xf (cj7 E0 E2 E39 E40 E41 E42 hb35) ?_
     refine w_exit ?_
     refine w_sqx ?_
     obtain rfl := some_inj hf34
     refine iq_x rfl fun hr46 => ?_
     obtain rfl := hr46
     refine w_bkx ?_
     exact cw_n ⟨_, WkE.refl _, _, rfl, X2, (xv (cj6 E0 E2 E39 E40 E41 E42)), hP⟩
   obtain ⟨v2_30, rfl, X2, E2, hP⟩ := hI
   try dsimp only at h
   refine w_sa (fun e s => Bx σ s i2 85 [(.v (.int .i64 (0 : Int))), (.v (.string (⟨#[]⟩ : ByteArray))), (.v (.int .i64 (0 : Int))), (.v (.int .i64 (0 : Int)))] ∧ e 2 = (.pt i2 0) ∧ e 3 = (.v (.int .i64 (1 : Int))) ∧ Pre σ s) ?_ fun e s hI => ?_
   ·refine w_x (cj4 E2 X2.get (X2.same 85 [(.v (.int .i64 (0 : Int))), (.v (.string (⟨#[]⟩ : ByteArray))), (.v (.int .i64 (0 : Int))), (.v (.int .i64 (0 : Int)))]).get TT) (k := ?_)
    have q22 := X2.same 85 [(.v (.int .i64 (0 : Int))), (.v (.string (⟨#[]⟩ : ByteArray))), (.v (.int .i64 (0 : Int))), (.v (.int .i64 (0 : Int)))]
    exact cw_n ⟨_, WkE.refl _, q22, (xv (cj4 E2 X2.get q22.get TT)), (xv (cj4 E2 X2.get q22.get TT)), (hP.set X2.le (some (AObj.box 85 [(.v (.int .i64 (0 : Int))), (.v (.string (⟨#[]⟩ : ByteArray))), (.v (.int .i64 (0 : Int))), (.v (.int .i64 (0 : Int)))])))⟩
   obtain ⟨X2, E2, E3, hP⟩ := hI
   refine w_ret ?_
   obtain rfl := some_inj h
   exact w_fin (fun _ => rfl) (xr (rs := #[.cell 2 85, .tmp 3]) (cj4 X2.get E2 E3 TT)) hP (r' := (.tu [(.ag [(.v (.int .i64 (0 : Int))), (.v (.string (⟨#[]⟩ : ByteArray))), (.v (.int .i64 (0 : Int))), (.v (.int .i64 (0 : Int)))]), (.v (.int .i64 (1 : Int)))])) (.refl _) (.tu (CnL.cons (.ag (CnL.cons (.v _) (CnL.cons (.v _) (CnL.cons (.v _) (CnL.cons (.v _) CnL.nil))))) (CnL.cons (.v _) CnL.nil))) hK
noncomputable def lex_blank_L0 (a0 : ByteArray) : Int → Option (Int ⊕ (Int ⊕ Int))
 | vat_4 =>
  if (decide (vat_4 < ((ByteArray.size a0 : Nat) : Int))) then
   ((getB a0 vat_4).bind fun y11 =>
   ((((if (decide (y11 = (35 : Int))) then
    some (.inr (.inr ()))
   else
    (if (decide (y11 = (32 : Int))) then
     some (decide (y11 = (32 : Int)))
    else
     (if (decide (y11 = (9 : Int))) then
      some (decide (y11 = (9 : Int)))
     else
      some (decide (y11 = (10 : Int))) : Option Bool).bind fun v14_32 =>
     some v14_32 : Option Bool).bind fun v14_28 =>
    if v14_28 then
     some (.inl vat_4)
    else
     some (.inr (.inl vat_4)) : Option (Int ⊕ Int ⊕ Unit)).bind fun x => match x with
   | .inl r => some (.inr (.inr r))
   | .inr (.inl r) => some (.inl r)
   | .inr (.inr _) =>
    (subS a0 vat_4 ((ByteArray.size a0 : Nat) : Int)).bind fun y35 =>
    none : Option (Int ⊕ Int ⊕ Int)).bind fun x => match x with
   | .inl r => some (.inr (.inr r))
   | .inr (.inl r) => some (.inr (.inl r))
   | .inr (.inr vat_22) =>
    some (.inl (IntKind.i64.wrap (vat_22 + (1 : Int)))) : Option (Int ⊕ Int ⊕ Int)).bind fun x => match x with
   | .inl r => some (.inr r)
   | .inr (.inl r) => some (.inl r)
   | .inr (.inr vat_19) =>
    some (.inl vat_19) : Option (Int ⊕ Int)).bind fun x => match x with
   | .inl r => some (.inl r)
   | .inr vat_16 =>
    some (.inr vat_16) : Option (Int ⊕ Int)).bind fun x => match x with
   | .inl r => some (.inr (.inl r))
   | .inr vat_10 =>
    some (.inl vat_10)
  else
   some (.inr (.inr vat_4))
noncomputable def B_lex_blank (a0 : ByteArray) : Option Int :=
 (iterO (lex_blank_L0 a0) (0 : Int) : Option (Int ⊕ Int)).bind fun x => match x with
 | .inl r => some r
 | .inr vat_3 =>
  some vat_3
theorem W_lex_blank : Sat_lex_blank (B_lex_blank) := by
 intro a0 r h σ K hK
 refine w_fp Try.func77 rfl rfl (by kernel_rfl) ?_
 unfold B_lex_blank at h
 have hP := Pre.refl σ
 have E0 : argE [(.v (.string a0))] 0 = (.v (.string a0)) := rfl
 have TT := cj4 Expr.rlen T_3 T_5 T_9
 refine w_sa (fun e s => e 0 = (.v (.string a0)) ∧ Pre σ s) ?_ fun e s hI => ?_
 ·refine w_x (cj2 E0 TT) (k := ?_)
  exact cw_n ⟨_, WkE.refl _, (xv (cj2 E0 TT)), hP⟩
 obtain ⟨E0, hP⟩ := hI
 refine w_sa (fun e s => e 0 = (.v (.string a0)) ∧ e 3 = (.v (.int .i64 (0 : Int))) ∧ Pre σ s) ?_ fun e s hI => ?_
 ·refine w_x (cj2 E0 TT) (k := ?_)
  exact cw_n ⟨_, WkE.refl _, (xv (cj2 E0 TT)), (xv (cj2 E0 TT)), hP⟩
 obtain ⟨E0, E3, hP⟩ := hI
 obtain ⟨x1, h2, h⟩ := bnd_some h
 refine w_sa (fun e s => ∃ vat_3 : Int, .inr vat_3 = x1 ∧ e 3 = (.v (.int .i64 vat_3)) ∧ Pre σ s) ?_ fun e s hI => ?_
 ·refine w_block ?_
  refine w_iter h2 (fun v e s => ∃ vat_4 : Int, vat_4 = v ∧ e 0 = (.v (.string a0)) ∧ e 3 = (.v (.int .i64 vat_4)) ∧ Pre σ s) ⟨_, WkE.refl _, _, rfl, (xv (cj2 E0 E3)), (xv (cj2 E0 E3)), hP⟩ fun v x5 e s hf6 hI => ?_
  obtain ⟨vat_4, rfl, E0, E3, hP⟩ := hI
  unfold lex_blank_L0 at hf6
  try dsimp only at hf6
  refine w_assoc ?_
  refine w_sa (fun e s => e 0 = (.v (.string a0)) ∧ e 3 = (.v (.int .i64 vat_4)) ∧ e 8 = (.v (.bool (decide (vat_4 < ((ByteArray.size a0 : Nat) : Int))))) ∧ Pre σ s) ?_ fun e s hI => ?_
  ·refine w_x (cj3 E0 E3 TT) (k := ?_)
   exact cw_n ⟨_, WkE.refl _, (xv (cj3 E0 E3 TT)), (xv (cj3 E0 E3 TT)), (xv (cj3 E0 E3 TT)), hP⟩
  obtain ⟨E0, E3, E8, hP⟩ := hI
  refine w_seq ?_
  rcases ite_some hf6 with ⟨hb7, hf6⟩ | ⟨hb7, hf6⟩
  ·refine xt (cj4 E0 E3 E8 hb7) ?_
   refine w_skip ?_
   refine w_sq ?_
   obtain ⟨x8, h9, hf6⟩ := bnd_some hf6
   refine w_an (fun e s => ∃ vat_10 : Int, .inr vat_10 = x8 ∧ e 0 = (.v (.string a0)) ∧ e 3 = (.v (.int .i64 vat_10)) ∧ Pre σ s) ?_ fun e s hI => ?_
   ·refine w_block ?_
    obtain ⟨y11, h12, h9⟩ := bnd_some h9
    refine w_sa (fun e s => e 0 = (.v (.string a0)) ∧ e 3 = (.v (.int .i64 vat_4)) ∧ e 11 = (.v (.int .u8 y11)) ∧ Pre σ s) ?_ fun e s hI => ?_
    ·obtain ⟨k13a, k13b, k13c, k13d⟩ := getB_some h12
     refine w_x (cj7 E0 E3 E8 k13a k13c k13d TT) (k := ?_)
     have q1 := cj7 E0 E3 E8 k13a k13c k13d TT
     exact cw_n ⟨_, WkE.refl _, (xv q1), (xv q1), (xv q1), hP⟩
    obtain ⟨E0, E3, E11, hP⟩ := hI
    obtain ⟨x14, h15, h9⟩ := bnd_some h9
    refine w_an (fun e s => ∃ vat_16 : Int, .inr vat_16 = x14 ∧ e 0 = (.v (.string a0)) ∧ e 3 = (.v (.int .i64 vat_16)) ∧ Pre σ s) ?_ fun e s hI => ?_
    ·refine w_block ?_
     obtain ⟨x17, h18, h15⟩ := bnd_some h15
     refine w_sa (fun e s => ∃ vat_19 : Int, .inr (.inr vat_19) = x17 ∧ e 3 = (.v (.int .i64 vat_19)) ∧ Pre σ s) ?_ fun e s hI => ?_
     ·refine w_block ?_
      obtain ⟨x20, h21, h18⟩ := bnd_some h18
      refine w_sa (fun e s => ∃ vat_22 : Int, .inr (.inr vat_22) = x20 ∧ e 0 = (.v (.string a0)) ∧ e 3 = (.v (.int .i64 vat_22)) ∧ Pre σ s) ?_ fun e s hI => ?_
      ·refine w_block ?_
       obtain ⟨x23, h24, h21⟩ := bnd_some h21
       refine w_sa (fun e s => .inr (.inr ()) = x23 ∧ e 0 = (.v (.string a0)) ∧ e 3 = (.v (.int .i64 vat_4)) ∧ Pre σ s) ?_ fun e s hI => ?_
       ·refine w_block ?_
        refine w_assoc ?_
        refine w_assoc ?_
        refine w_sa (fun e s => e 0 = (.v (.string a0)) ∧ e 3 = (.v (.int .i64 vat_4)) ∧ e 11 = (.v (.int .u8 y11)) ∧ e 12 = (.v (.bool (decide (y11 = (35 : Int))))) ∧ Pre σ s) ?_ fun e s hI => ?_
        ·refine w_x (cj4 E0 E3 E11 TT) (k := ?_)
         have q2 := cj4 E0 E3 E11 TT
         exact cw_n ⟨_, WkE.refl _, (xv q2), (xv q2), (xv q2), (xv q2), hP⟩
        obtain ⟨E0, E3, E11, E12, hP⟩ := hI
        refine w_seq ?_
        rcases ite_some h24 with ⟨hb25, h24⟩ | ⟨hb25, h24⟩
        ·refine xt (cj5 E0 E3 E11 E12 hb25) ?_
         refine w_exit ?_
         refine w_sqx ?_
         refine w_bkx ?_
         obtain rfl := some_inj h24
         exact cw_n ⟨_, WkE.refl _, rfl, (xv (cj4 E0 E3 E11 E12)), (xv (cj4 E0 E3 E11 E12)), hP⟩
        ·refine xf (cj5 E0 E3 E11 E12 hb25) ?_
         refine w_skip ?_
         refine w_sq ?_
         refine w_assoc ?_
         refine w_assoc ?_
         refine w_sa (fun e s => e 0 = (.v (.string a0)) ∧ e 3 = (.v (.int .i64 vat_4)) ∧ e 11 = (.v (.int .u8 y11)) ∧ e 14 = (.v (.bool (decide (y11 = (32 : Int))))) ∧ Pre σ s) ?_ fun e s hI => ?_
         ·refine w_x (cj5 E0 E3 E11 E12 TT) (k := ?_)
          have q3 := cj5 E0 E3 E11 E12 TT
          exact cw_n ⟨_, WkE.refl _, (xv q3), (xv q3), (xv q3), (xv q3), hP⟩
         obtain ⟨E0, E3, E11, E14, hP⟩ := hI
         obtain ⟨x26, h27, h24⟩ := bnd_some h24
         refine w_sa (fun e s => ∃ v14_28 : Bool, v14_28 = x26 ∧ e 0 = (.v (.string a0)) ∧ e 3 = (.v (.int .i64 vat_4)) ∧ e 14 = (.v (.bool v14_28)) ∧ Pre σ s) ?_ fun e s hI => ?_
         ·rcases ite_some h27 with ⟨hb29, h27⟩ | ⟨hb29, h27⟩
          ·refine xt (cj5 E0 E3 E11 E14 hb29) ?_
           refine w_skip ?_
           obtain rfl := some_inj h27
           have q4 := cj4 E0 E3 E11 E14
           exact cw_n ⟨_, WkE.refl _, _, rfl, (xv q4), (xv q4), (xv q4), hP⟩
          ·refine xf (cj5 E0 E3 E11 E14 hb29) ?_
           refine w_sa (fun e s => e 0 = (.v (.string a0)) ∧ e 3 = (.v (.int .i64 vat_4)) ∧ e 11 = (.v (.int .u8 y11)) ∧ e 14 = (.v (.bool (decide (y11 = (9 : Int))))) ∧ Pre σ s) ?_ fun e s hI => ?_
           ·refine w_x (cj5 E0 E3 E11 E14 TT) (k := ?_)
            have q5 := cj5 E0 E3 E11 E14 TT
            exact cw_n ⟨_, WkE.refl _, (xv q5), (xv q5), (xv q5), (xv q5), hP⟩
           obtain ⟨E0, E3, E11, E14, hP⟩ := hI
           obtain ⟨x30, h31, h27⟩ := bnd_some h27
           refine w_an (fun e s => ∃ v14_32 : Bool, v14_32 = x30 ∧ e 0 = (.v (.string a0)) ∧ e 3 = (.v (.int .i64 vat_4)) ∧ e 14 = (.v (.bool v14_32)) ∧ Pre σ s) ?_ fun e s hI => ?_
           ·rcases ite_some h31 with ⟨hb33, h31⟩ | ⟨hb33, h31⟩
            ·refine xt (cj5 E0 E3 E11 E14 hb33) ?_
             refine w_skip ?_
             obtain rfl := some_inj h31
             have q6 := cj4 E0 E3 E11 E14
             exact ct_n ⟨_, rfl, (xv q6), (xv q6), (xv q6), hP⟩
            ·refine xf (cj5 E0 E3 E11 E14 hb33) ?_
             refine w_x (cj5 E0 E3 E11 E14 TT) (k := ?_)
             obtain rfl := some_inj h31
             have q7 := cj5 E0 E3 E11 E14 TT
             exact ct_n ⟨_, rfl, (xv q7), (xv q7), (xv q7), hP⟩
           obtain ⟨v14_32, rfl, E0, E3, E14, hP⟩ := hI
           try dsimp only at h27
           obtain rfl := some_inj h27
           have q8 := cj3 E0 E3 E14
           exact cw_n ⟨_, WkE.refl _, _, rfl, (xv q8), (xv q8), (xv q8), hP⟩
         obtain ⟨v14_28, rfl, E0, E3, E14, hP⟩ := hI
         try dsimp only at h24
         refine w_seq ?_
         rcases ite_some h24 with ⟨hb34, h24⟩ | ⟨hb34, h24⟩
         ·refine xt (cj4 E0 E3 E14 hb34) ?_
          refine w_exit ?_
          refine w_sqx ?_
          refine w_bky (by decide) ?_
          obtain rfl := some_inj h24
          refine cw_x ?_
          try dsimp only at h21
          refine w_bkx ?_
          obtain rfl := some_inj h21
          exact cw_n ⟨_, WkE.refl _, _, rfl, (xv (cj3 E0 E3 E14)), (xv (cj3 E0 E3 E14)), hP⟩
         ·refine xf (cj4 E0 E3 E14 hb34) ?_
          refine w_skip ?_
          refine w_sq ?_
          refine w_exit ?_
          refine w_bky (by decide) ?_
          obtain rfl := some_inj h24
          refine cw_x ?_
          try dsimp only at h21
          refine w_bky (by decide) ?_
          obtain rfl := some_inj h21
          refine cw_x ?_
          try dsimp only at h18
          refine w_bkx ?_
          obtain rfl := some_inj h18
          exact cw_n ⟨_, WkE.refl _, _, rfl, (xv (cj3 E0 E3 E14)), hP⟩
       obtain ⟨rfl, E0, E3, hP⟩ := hI
       try dsimp only at h21
       obtain ⟨y35, h36, h21⟩ := bnd_some h21
       cases h21
      obtain ⟨vat_22, rfl, E0, E3, hP⟩ := hI
      try dsimp only at h18
      refine w_sa (fun e s => e 0 = (.v (.string a0)) ∧ e 3 = (.v (.int .i64 (IntKind.i64.wrap (vat_22 + (1 : Int))))) ∧ Pre σ s) ?_ fun e s hI => ?_
      ·refine w_x (cj3 E0 E3 TT) (k := ?_)
       exact cw_n ⟨_, WkE.refl _, (xv (cj3 E0 E3 TT)), (xv (cj3 E0 E3 TT)), hP⟩
      obtain ⟨E0, E3, hP⟩ := hI
      refine w_exit ?_
      refine w_bky (by decide) ?_
      obtain rfl := some_inj h18
      refine cw_x ?_
      try dsimp only at h15
      refine w_bkx ?_
      obtain rfl := some_inj h15
      exact ct_n ⟨_, rfl, (xv (cj2 E0 E3)), (xv (cj2 E0 E3)), hP⟩
     obtain ⟨vat_19, rfl, E3, hP⟩ := hI
     try dsimp only at h15
     refine w_seq ?_
     refine w_sa (fun e s => e 2 = (.v (.int .i64 vat_19)) ∧ Pre σ s) ?_ fun e s hI => ?_
     ·refine w_x (cj2 E3 TT) (k := ?_)
      exact cw_n ⟨_, WkE.refl _, (xv (cj2 E3 TT)), hP⟩
     obtain ⟨E2, hP⟩ := hI
     refine w_ret ?_
     refine w_sqr ?_
     refine w_bkr ?_
     obtain rfl := some_inj h15
     refine ct_r ?_
     try dsimp only at h9
     refine w_bkr ?_
     obtain rfl := some_inj h9
     refine ct_r ?_
     try dsimp only at hf6
     obtain rfl := some_inj hf6
     refine iq_r rfl fun hr37 => ?_
     obtain rfl := hr37
     refine w_bkr ?_
     refine cw_r ?_
     try dsimp only at h
     obtain rfl := some_inj h
     exact w_fin (fun _ => rfl) (xr (rs := #[.tmp 2]) E2) hP (r' := (.v (.int .i64 vat_19))) (.refl _) (.v _) hK
    obtain ⟨vat_16, rfl, E0, E3, hP⟩ := hI
    try dsimp only at h9
    refine w_bk ?_
    obtain rfl := some_inj h9
    exact ct_n ⟨_, rfl, (xv (cj2 E0 E3)), (xv (cj2 E0 E3)), hP⟩
   obtain ⟨vat_10, rfl, E0, E3, hP⟩ := hI
   try dsimp only at hf6
   obtain rfl := some_inj hf6
   exact iq_n rfl ⟨_, WkE.refl _, _, rfl, (xv (cj2 E0 E3)), (xv (cj2 E0 E3)), hP⟩
  ·refine xf (cj4 E0 E3 E8 hb7) ?_
   refine w_exit ?_
   refine w_sqx ?_
   obtain rfl := some_inj hf6
   refine iq_x rfl fun hr38 => ?_
   obtain rfl := hr38
   refine w_bkx ?_
   exact cw_n ⟨_, WkE.refl _, _, rfl, (xv (cj3 E0 E3 E8)), hP⟩
 obtain ⟨vat_3, rfl, E3, hP⟩ := hI
 try dsimp only at h
 refine w_sa (fun e s => e 2 = (.v (.int .i64 vat_3)) ∧ Pre σ s) ?_ fun e s hI => ?_
 ·refine w_x (cj2 E3 TT) (k := ?_)
  exact cw_n ⟨_, WkE.refl _, (xv (cj2 E3 TT)), hP⟩
 obtain ⟨E2, hP⟩ := hI
 refine w_ret ?_
 obtain rfl := some_inj h
 exact w_fin (fun _ => rfl) (xr (rs := #[.tmp 2]) E2) hP (r' := (.v (.int .i64 vat_3))) (.refl _) (.v _) hK
noncomputable def lex_Lex_L0 (a0 : ByteArray) (f_lex_blank : ByteArray → Option Int) (f_lex_next : ByteArray → Option (lex_Token × Int)) : ((List lex_Token) × Int) → Option (((List lex_Token) × Int) ⊕ (((List lex_Token) × Int × Int) ⊕ (List lex_Token)))
 | (vout_7, vat_8) =>
  if (decide (vat_8 < ((ByteArray.size a0 : Nat) : Int))) then
   ((subS a0 vat_8 ((ByteArray.size a0 : Nat) : Int)).bind fun y16 =>
   (f_lex_next y16).bind fun y18 =>
   if (!decide (y18.2 = (0 : Int))) then
    some (.inl ([], vat_8, y18.2))
   else
    (appO 40 vout_7 ([(lex_Token.mk y18.1.kind y18.1.text y18.1.n vat_8)])).bind fun y22 =>
    some (.inr (y22, (IntKind.i64.wrap (vat_8 + ((ByteArray.size y18.1.text : Nat) : Int))))) : Option (((List lex_Token) × Int × Int) ⊕ ((List lex_Token) × Int))).bind fun x => match x with
   | .inl r => some (.inr (.inl r))
   | .inr (vout_14, vat_15) =>
    (subS a0 vat_15 ((ByteArray.size a0 : Nat) : Int)).bind fun y36 =>
    (f_lex_blank y36).bind fun y38 =>
    some (.inl (vout_14, (IntKind.i64.wrap (vat_15 + y38))))
  else
   some (.inr (.inr vout_7))
noncomputable def B_lex_Lex (f_lex_blank : ByteArray → Option Int) (f_lex_next : ByteArray → Option (lex_Token × Int)) (a0 : ByteArray) : Option ((List lex_Token) × Int × Int) :=
 if (decide ((4000 : Int) < ((ByteArray.size a0 : Nat) : Int))) then
  some ([], (0 : Int), (8 : Int))
 else
  (f_lex_blank a0).bind fun y2 =>
  (iterO (lex_Lex_L0 a0 f_lex_blank f_lex_next) ([], y2) : Option (((List lex_Token) × Int × Int) ⊕ (List lex_Token))).bind fun x => match x with
  | .inl r => some r
  | .inr vout_6 =>
   some (vout_6, (0 : Int), (0 : Int))
theorem W_lex_Lex (f_lex_blank : ByteArray → Option Int) (f_lex_next : ByteArray → Option (lex_Token × Int)) (S_lex_blank : Sat_lex_blank f_lex_blank) (S_lex_next : Sat_lex_next f_lex_next) : Sat_lex_Lex (B_lex_Lex f_lex_blank f_lex_next) := by
 intro a0 r h σ K hK
 refine w_fp Try.func34 rfl rfl (by kernel_rfl) ?_
 unfold B_lex_Lex at h
 have hP := Pre.refl σ
 have E0 : argE [(.v (.string a0))] 0 = (.v (.string a0)) := rfl
 have TT := cj7 Expr.rlen T_2 T_3 T_30 T_81 T_85 T_9
 refine w_sa (fun e s => e 0 = (.v (.string a0)) ∧ Pre σ s) ?_ fun e s hI => ?_
 ·refine w_x (cj2 E0 TT) (k := ?_)
  exact cw_n ⟨_, WkE.refl _, (xv (cj2 E0 TT)), hP⟩
 obtain ⟨E0, hP⟩ := hI
 refine w_assoc ?_
 refine w_sa (fun e s => e 0 = (.v (.string a0)) ∧ e 11 = (.v (.bool (decide ((4000 : Int) < ((ByteArray.size a0 : Nat) : Int))))) ∧ Pre σ s) ?_ fun e s hI => ?_
 ·refine w_x (cj2 E0 TT) (k := ?_)
  exact cw_n ⟨_, WkE.refl _, (xv (cj2 E0 TT)), (xv (cj2 E0 TT)), hP⟩
 obtain ⟨E0, E11, hP⟩ := hI
 refine w_seq ?_
 rcases ite_some h with ⟨hb1, h⟩ | ⟨hb1, h⟩
 ·refine xt (cj3 E0 E11 hb1) ?_
  refine w_sa (fun e s => e 2 = (.sl []) ∧ e 3 = (.v (.int .i64 (0 : Int))) ∧ e 4 = (.v (.int .i64 (8 : Int))) ∧ Pre σ s) ?_ fun e s hI => ?_
  ·refine w_x (cj3 E0 E11 TT) (k := ?_)
   have q1 := cj3 E0 E11 TT
   exact cw_n ⟨_, WkE.upd (WkE.refl _) (t := 2) (p := (.v (.slice none 0 0))) (q := (.sl [])) (xv q1) .nil, (xv q1), (xv q1), (xv q1), hP⟩
  obtain ⟨E2, E3, E4, hP⟩ := hI
  refine w_ret ?_
  refine w_sqr ?_
  obtain rfl := some_inj h
  exact w_fin (fun _ => rfl) (xr (rs := #[.tmp 2, .tmp 3, .tmp 4]) (cj3 E2 E3 E4)) hP (r' := (.tu [(.sl []), (.v (.int .i64 (0 : Int))), (.v (.int .i64 (8 : Int)))])) (.refl _) (.tu (CnL.cons Cn.sl0 (CnL.cons (.v _) (CnL.cons (.v _) CnL.nil)))) hK
 ·refine xf (cj3 E0 E11 hb1) ?_
  refine w_skip ?_
  refine w_sq ?_
  refine w_sa (fun e s => ∃ p5 : PV, e 0 = (.v (.string a0)) ∧ e 5 = p5 ∧ Acc σ s p5 85 4 (List.map lex_Token.cl ([])) ∧ Pre σ s) ?_ fun e s hI => ?_
  ·refine w_x (cj3 E0 E11 TT) (k := ?_)
   exact cw_n ⟨_, WkE.refl _, (.v (.slice none 0 0)), (xv (cj3 E0 E11 TT)), (xv (cj3 E0 E11 TT)), (Acc.nil _ _ _ _), hP⟩
  obtain ⟨p5, E0, E5, A5, hP⟩ := hI
  refine w_assoc ?_
  obtain ⟨y2, h3, h⟩ := bnd_some h
  refine w_sa (fun e s => ∃ p5 : PV, e 0 = (.v (.string a0)) ∧ e 5 = p5 ∧ Acc σ s p5 85 4 (List.map lex_Token.cl ([])) ∧ e 6 = (.v (.int .i64 y2)) ∧ Pre σ s) ?_ fun e s hI => ?_
  ·refine w_x (cj4 E0 E5 A5.rowsOf TT) (k := ?_)
   refine EC.wka (.cons (.refl _) .nil) (S_lex_blank _ _ h3 _ _  ?_)
   refine w_y (cj4 E0 E5 A5.rowsOf TT) (k := ?_)
   have q2 := cj4 E0 E5 A5.rowsOf TT
   exact cw_n ⟨_, WkE.refl _, p5, (xv q2), (xv q2), A5, (xv q2), hP⟩
  obtain ⟨p5, E0, E5, A5, E6, hP⟩ := hI
  obtain ⟨x4, h5, h⟩ := bnd_some h
  refine w_sa (fun e s => ∃ vout_6 : (List lex_Token), ∃ p5 : PV, .inr vout_6 = x4 ∧ e 5 = p5 ∧ Acc σ s p5 85 4 (List.map lex_Token.cl vout_6) ∧ Pre σ s) ?_ fun e s hI => ?_
  ·refine w_block ?_
   refine w_iter h5 (fun v e s => ∃ vout_7 : (List lex_Token), ∃ vat_8 : Int, ∃ p5 : PV, (vout_7, vat_8) = v ∧ e 0 = (.v (.string a0)) ∧ e 5 = p5 ∧ Acc σ s p5 85 4 (List.map lex_Token.cl vout_7) ∧ e 6 = (.v (.int .i64 vat_8)) ∧ Pre σ s) ⟨_, WkE.refl _, _, _, p5, rfl, (xv (cj3 E0 E5 E6)), (xv (cj3 E0 E5 E6)), A5, (xv (cj3 E0 E5 E6)), hP⟩ fun v x9 e s hf10 hI => ?_
   obtain ⟨vout_7, vat_8, p5, rfl, E0, E5, A5, E6, hP⟩ := hI
   unfold lex_Lex_L0 at hf10
   try dsimp only at hf10
   refine w_assoc ?_
   refine w_sa (fun e s => ∃ p5 : PV, e 0 = (.v (.string a0)) ∧ e 5 = p5 ∧ Acc σ s p5 85 4 (List.map lex_Token.cl vout_7) ∧ e 6 = (.v (.int .i64 vat_8)) ∧ e 17 = (.v (.bool (decide (vat_8 < ((ByteArray.size a0 : Nat) : Int))))) ∧ Pre σ s) ?_ fun e s hI => ?_
   ·refine w_x (cj5 E0 E5 E6 A5.rowsOf TT) (k := ?_)
    have q3 := cj5 E0 E5 E6 A5.rowsOf TT
    exact cw_n ⟨_, WkE.refl _, p5, (xv q3), (xv q3), A5, (xv q3), (xv q3), hP⟩
   obtain ⟨p5, E0, E5, A5, E6, E17, hP⟩ := hI
   refine w_seq ?_
   rcases ite_some hf10 with ⟨hb11, hf10⟩ | ⟨hb11, hf10⟩
   ·refine xt (cj5 E0 E5 E6 E17 hb11) ?_
    refine w_skip ?_
    refine w_sq ?_
    obtain ⟨x12, h13, hf10⟩ := bnd_some hf10
    refine w_sa (fun e s => ∃ vout_14 : (List lex_Token), ∃ vat_15 : Int, ∃ p5 : PV, .inr (vout_14, vat_15) = x12 ∧ e 0 = (.v (.string a0)) ∧ e 5 = p5 ∧ Acc σ s p5 85 4 (List.map lex_Token.cl vout_14) ∧ e 6 = (.v (.int .i64 vat_15)) ∧ Pre σ s) ?_ fun e s hI => ?_
    ·refine w_block ?_
     obtain ⟨y16, h17, h13⟩ := bnd_some h13
     obtain ⟨y18, h19, h13⟩ := bnd_some h13
     refine w_sa (fun e s => ∃ i7 : Nat, ∃ p5 : PV, Bx σ s i7 85 [(.v (.int .i64 y18.1.kind)), (.v (.string y18.1.text)), (.v (.int .i64 y18.1.n)), (.v (.int .i64 y18.1.at_))] ∧ e 0 = (.v (.string a0)) ∧ e 5 = p5 ∧ Acc σ s p5 85 4 (List.map lex_Token.cl vout_7) ∧ e 6 = (.v (.int .i64 vat_8)) ∧ e 7 = (.pt i7 0) ∧ e 8 = (.v (.int .i64 y18.2)) ∧ Pre σ s) ?_ fun e s hI => ?_
     ·refine w_x (cj8 E0 E5 E6 E17 A5.rowsOf (subS_some h17).1 (subS_some h17).2 TT) (k := ?_)
      refine EC.wka (.cons (.refl _) .nil) (S_lex_next _ _ h19 _ _  ?_)
      refine w_y (cj8 E0 E5 E6 E17 A5.rowsOf (subS_some h17).1 (subS_some h17).2 TT) (k := ?_)
      have q4 := cj8 E0 E5 E6 E17 A5.rowsOf (subS_some h17).1 (subS_some h17).2 TT
      exact cw_n ⟨_, WkE.refl _, s.length, p5, (Bx.new hP 85 [(.v (.int .i64 y18.1.kind)), (.v (.string y18.1.text)), (.v (.int .i64 y18.1.n)), (.v (.int .i64 y18.1.at_))]), (xv q4), (xv q4), (A5.app [some (AObj.box 85 [(.v (.int .i64 y18.1.kind)), (.v (.string y18.1.text)), (.v (.int .i64 y18.1.n)), (.v (.int .i64 y18.1.at_))])]), (xv q4), (xv q4), (xv q4), (hP.app _)⟩
     obtain ⟨i7, p5, X7, E0, E5, A5, E6, E7, E8, hP⟩ := hI
     refine w_assoc ?_
     refine w_sa (fun e s => ∃ p5 : PV, Bx σ s i7 85 [(.v (.int .i64 y18.1.kind)), (.v (.string y18.1.text)), (.v (.int .i64 y18.1.n)), (.v (.int .i64 y18.1.at_))] ∧ e 0 = (.v (.string a0)) ∧ e 5 = p5 ∧ Acc σ s p5 85 4 (List.map lex_Token.cl vout_7) ∧ e 6 = (.v (.int .i64 vat_8)) ∧ e 7 = (.pt i7 0) ∧ e 8 = (.v (.int .i64 y18.2)) ∧ e 32 = (.v (.bool (!decide (y18.2 = (0 : Int))))) ∧ Pre σ s) ?_ fun e s hI => ?_
     ·refine w_x (cj8 E0 E5 E6 E7 E8 X7.get A5.rowsOf TT) (k := ?_)
      have q5 := cj8 E0 E5 E6 E7 E8 X7.get A5.rowsOf TT
      exact cw_n ⟨_, WkE.refl _, p5, X7, (xv q5), (xv q5), A5, (xv q5), (xv q5), (xv q5), (xv q5), hP⟩
     obtain ⟨p5, X7, E0, E5, A5, E6, E7, E8, E32, hP⟩ := hI
     refine w_seq ?_
     rcases ite_some h13 with ⟨hb20, h13⟩ | ⟨hb20, h13⟩
     ·refine xt (cj7 E0 E5 E6 E7 E8 E32 hb20) ?_
      refine w_sa (fun e s => e 2 = (.sl []) ∧ e 3 = (.v (.int .i64 vat_8)) ∧ e 4 = (.v (.int .i64 y18.2)) ∧ Pre σ s) ?_ fun e s hI => ?_
      ·refine w_x (cj9 E0 E5 E6 E7 E8 E32 X7.get A5.rowsOf TT) (k := ?_)
       have q6 := cj9 E0 E5 E6 E7 E8 E32 X7.get A5.rowsOf TT
       exact cw_n ⟨_, WkE.upd (WkE.refl _) (t := 2) (p := (.v (.slice none 0 0))) (q := (.sl [])) (xv q6) .nil, (xv q6), (xv q6), (xv q6), hP⟩
      obtain ⟨E2, E3, E4, hP⟩ := hI
      refine w_ret ?_
      refine w_sqr ?_
      refine w_bkr ?_
      obtain rfl := some_inj h13
      refine cw_r ?_
      try dsimp only at hf10
      obtain rfl := some_inj hf10
      refine iq_r rfl fun hr21 => ?_
      obtain rfl := hr21
      refine w_bkr ?_
      refine cw_r ?_
      try dsimp only at h
      obtain rfl := some_inj h
      exact w_fin (fun _ => rfl) (xr (rs := #[.tmp 2, .tmp 3, .tmp 4]) (cj3 E2 E3 E4)) hP (r' := (.tu [(.sl []), (.v (.int .i64 vat_8)), (.v (.int .i64 y18.2))])) (.refl _) (.tu (CnL.cons Cn.sl0 (CnL.cons (.v _) (CnL.cons (.v _) CnL.nil)))) hK
     ·refine xf (cj7 E0 E5 E6 E7 E8 E32 hb20) ?_
      refine w_skip ?_
      refine w_sq ?_
      refine w_sa (fun e s => ∃ p5 : PV, Bx σ s i7 85 [(.v (.int .i64 y18.1.kind)), (.v (.string y18.1.text)), (.v (.int .i64 y18.1.n)), (.v (.int .i64 vat_8))] ∧ e 0 = (.v (.string a0)) ∧ e 5 = p5 ∧ Acc σ s p5 85 4 (List.map lex_Token.cl vout_7) ∧ e 6 = (.v (.int .i64 vat_8)) ∧ e 7 = (.pt i7 0) ∧ Pre σ s) ?_ fun e s hI => ?_
      ·refine w_x (cj10 E0 E5 E6 E7 E8 E32 X7.get A5.rowsOf (X7.same 85 [(.v (.int .i64 y18.1.kind)), (.v (.string y18.1.text)), (.v (.int .i64 y18.1.n)), (.v (.int .i64 vat_8))]).get TT) (k := ?_)
       have q7 := X7.same 85 [(.v (.int .i64 y18.1.kind)), (.v (.string y18.1.text)), (.v (.int .i64 y18.1.n)), (.v (.int .i64 vat_8))]
       have q8 := cj10 E0 E5 E6 E7 E8 E32 X7.get A5.rowsOf q7.get TT
       exact cw_n ⟨_, WkE.refl _, p5, q7, (xv q8), (xv q8), (A5.setg X7.gx (by intro a b c h; cases h) (some (AObj.box 85 [(.v (.int .i64 y18.1.kind)), (.v (.string y18.1.text)), (.v (.int .i64 y18.1.n)), (.v (.int .i64 vat_8))]))), (xv q8), (xv q8), (hP.set X7.le (some (AObj.box 85 [(.v (.int .i64 y18.1.kind)), (.v (.string y18.1.text)), (.v (.int .i64 y18.1.n)), (.v (.int .i64 vat_8))])))⟩
      obtain ⟨p5, X7, E0, E5, A5, E6, E7, hP⟩ := hI
      obtain ⟨y22, h23, h13⟩ := bnd_some h13
      refine w_sa (fun e s => ∃ p5 : PV, Bx σ s i7 85 [(.v (.int .i64 y18.1.kind)), (.v (.string y18.1.text)), (.v (.int .i64 y18.1.n)), (.v (.int .i64 vat_8))] ∧ e 0 = (.v (.string a0)) ∧ e 5 = p5 ∧ Acc σ s p5 85 4 (List.map lex_Token.cl y22) ∧ e 6 = (.v (.int .i64 vat_8)) ∧ e 7 = (.pt i7 0) ∧ Pre σ s) ?_ fun e s hI => ?_
      ·obtain ⟨p27, s28, ha32, A290, hP33, K30, Q31, U34, V35⟩ := Acc.push (ns := [[(.v (.int .i64 y18.1.kind)), (.v (.string y18.1.text)), (.v (.int .i64 y18.1.n)), (.v (.int .i64 vat_8))]]) (rows := (List.map lex_Token.cl vout_7)) T_81 T_85 A5 hP (map_len (f := lex_Token.cl) (n := 4) (fun _ => rfl) _) (by simp) (by simp) (by decide) (by simpa [Expr.rlen] using (appO_some h23).1)
       have ha32 := ha32 (.sl [[(.v (.int .i64 y18.1.kind)), (.v (.string y18.1.text)), (.v (.int .i64 y18.1.n)), (.v (.int .i64 vat_8))]]) rfl
       have A29 : Acc σ s28 p27 85 4 (List.map lex_Token.cl y22) := by rw [← (appO_some h23).2]; rw [List.map_append]; exact A290
       refine w_x (cj9 E0 E5 E6 E7 X7.get A5.rowsOf ha32 (X7.keep A5 K30).get TT) (k := ?_)
       have q9 := X7.keep A5 K30
       have q10 := cj9 E0 E5 E6 E7 X7.get A5.rowsOf ha32 q9.get TT
       exact cw_n ⟨_, WkE.refl _, p27, q9, (xv q10), (xv q10), A29, (xv q10), (xv q10), hP33⟩
      obtain ⟨p5, X7, E0, E5, A5, E6, E7, hP⟩ := hI
      refine w_x (cj7 E0 E5 E6 E7 X7.get A5.rowsOf TT) (k := ?_)
      refine w_bk ?_
      obtain rfl := some_inj h13
      have q11 := cj7 E0 E5 E6 E7 X7.get A5.rowsOf TT
      exact cw_n ⟨_, WkE.refl _, _, _, p5, rfl, (xv q11), (xv q11), A5, (xv q11), hP⟩
    obtain ⟨vout_14, vat_15, p5, rfl, E0, E5, A5, E6, hP⟩ := hI
    try dsimp only at hf10
    obtain ⟨y36, h37, hf10⟩ := bnd_some hf10
    obtain ⟨y38, h39, hf10⟩ := bnd_some hf10
    refine w_x (cj7 E0 E5 E6 A5.rowsOf (subS_some h37).1 (subS_some h37).2 TT) (k := ?_)
    refine EC.wka (.cons (.refl _) .nil) (S_lex_blank _ _ h39 _ _  ?_)
    refine w_y (cj7 E0 E5 E6 A5.rowsOf (subS_some h37).1 (subS_some h37).2 TT) (k := ?_)
    obtain rfl := some_inj hf10
    have q12 := cj7 E0 E5 E6 A5.rowsOf (subS_some h37).1 (subS_some h37).2 TT
    exact iq_n rfl ⟨_, WkE.refl _, _, _, p5, rfl, (xv q12), (xv q12), A5, (xv q12), hP⟩
   ·refine xf (cj5 E0 E5 E6 E17 hb11) ?_
    refine w_exit ?_
    refine w_sqx ?_
    obtain rfl := some_inj hf10
    refine iq_x rfl fun hr40 => ?_
    obtain rfl := hr40
    refine w_bkx ?_
    exact cw_n ⟨_, WkE.refl _, _, p5, rfl, (xv (cj4 E0 E5 E6 E17)), A5, hP⟩
  obtain ⟨vout_6, p5, rfl, E5, A5, hP⟩ := hI
  try dsimp only at h
  refine w_sa (fun e s => e 2 = (.sl (List.map lex_Token.cl vout_6)) ∧ e 3 = (.v (.int .i64 (0 : Int))) ∧ e 4 = (.v (.int .i64 (0 : Int))) ∧ Pre σ s) ?_ fun e s hI => ?_
  ·refine w_x (cj3 E5 A5.rowsOf TT) (k := ?_)
   have q13 := cj3 E5 A5.rowsOf TT
   exact cw_n ⟨_, WkE.upd (WkE.refl _) (t := 2) (p := p5) (q := (.sl (List.map lex_Token.cl vout_6))) (xv q13) A5.wk, (xv q13), (xv q13), (xv q13), hP⟩
  obtain ⟨E2, E3, E4, hP⟩ := hI
  refine w_ret ?_
  obtain rfl := some_inj h
  exact w_fin (fun _ => rfl) (xr (rs := #[.tmp 2, .tmp 3, .tmp 4]) (cj3 E2 E3 E4)) hP (r' := (.tu [(.sl (List.map lex_Token.cl vout_6)), (.v (.int .i64 (0 : Int))), (.v (.int .i64 (0 : Int)))])) (.refl _) (.tu (CnL.cons (Cn.rows lex_Token.cn _) (CnL.cons (.v _) (CnL.cons (.v _) CnL.nil)))) hK
end Go.Proofs.Ytohmmfimedgccaa.E
end
section
namespace Go.Proofs.Ytohmmfimedgccaa.E
set_option linter.unusedVariables false
set_option linter.unusedSimpArgs false
def bs (l : List UInt8) : ByteArray := ⟨l.toArray⟩
theorem bs_size (l : List UInt8) : (bs l).size = l.length := by show l.toArray.size = _; simp
theorem bs_list (l : List UInt8) : (bs l).data.toList = l := by simp [bs]
theorem bs_inj {a b : List UInt8} : bs a = bs b ↔ a = b := by
 constructor
 ·intro h
  have := congrArg (fun x => x.data.toList) h
  simpa [bs] using this
 ·rintro rfl; rfl
theorem bs_sub (l : List UInt8) (i j : Nat) (h : i ≤ j) (hj : j ≤ l.length) : subS (bs l) (i : Int) (j : Int) = some (bs ((l.take j).drop i)) := by
 unfold subS
 rw [if_pos ⟨by omega, by omega, by rw [bs_size]; omega⟩]
 congr 1
 apply ByteArray.ext
 apply Array.ext'
 rw [ByteArray.data_extract, bs_list, Array.toList_extract]
 simp [bs, List.extract_eq_take_drop, List.drop_take]
theorem bs_cat (a b : List UInt8) (h : a.length + b.length ≤ 9223372036854775807) : catO (bs a) (bs b) = some (bs (a ++ b)) := by
 unfold catO
 rw [if_pos (by rw [bs_size, bs_size]; exact h)]
 refine congrArg some (ByteArray.ext ?_)
 simp [bs]
theorem bs_getB (a : List UInt8) (c : UInt8) (r : List UInt8) : getB (bs (a ++ c :: r)) (a.length : Int) = some (c.toNat : Int) := by
 unfold getB
 rw [if_pos (by omega), bs_list]
 simp
theorem bs_get0 (c : UInt8) (r : List UInt8) : getB (bs (c :: r)) 0 = some (c.toNat : Int) := bs_getB [] c r
noncomputable def m_in := B_lex_in
noncomputable def m_nc1 := B_lex_next_c1 m_in
noncomputable def m_dig := B_lex_digit
noncomputable def m_while := B_lex_while
noncomputable def m_lnum := B_lex_number
noncomputable def m_signs := B_lex_signs
noncomputable def m_hasP0 := B_stringslite_HasPrefix
noncomputable def m_hasP := B_strings_HasPrefix m_hasP0
noncomputable def m_next := B_lex_next m_in m_while m_nc1 m_dig m_lnum m_signs m_hasP
noncomputable def m_blank := B_lex_blank
noncomputable def m_Lex := B_lex_Lex m_blank m_next
theorem s_in : Sat_lex_in m_in := W_lex_in
theorem s_nc1 : Sat_lex_next_c1 m_nc1 := W_lex_next_c1 _ s_in
theorem s_dig : Sat_lex_digit m_dig := W_lex_digit
theorem s_while : Sat_lex_while m_while := W_lex_while
theorem s_lnum : Sat_lex_number m_lnum := W_lex_number
theorem s_signs : Sat_lex_signs m_signs := W_lex_signs
theorem s_hasP0 : Sat_stringslite_HasPrefix m_hasP0 := W_stringslite_HasPrefix
theorem s_hasP : Sat_strings_HasPrefix m_hasP := W_strings_HasPrefix _ s_hasP0
theorem s_next : Sat_lex_next m_next := W_lex_next _ _ _ _ _ _ _ s_in s_while s_nc1 s_dig s_lnum s_signs s_hasP
theorem s_blank : Sat_lex_blank m_blank := W_lex_blank
theorem s_Lex : Sat_lex_Lex m_Lex := W_lex_Lex _ _ s_blank s_next
def nameB (c : Int) : Bool := (decide (48 ≤ c) && decide (c ≤ 57)) || decide (c = 95) || (decide (97 ≤ c) && decide (c ≤ 122))
theorem t_in0 (c : Int) : m_in c false = some (nameB c) := by
 unfold m_in B_lex_in nameB
 by_cases h1 : 48 ≤ c <;> by_cases h2 : c ≤ 57 <;> by_cases h3 : c = 95 <;> by_cases h4 : 97 ≤ c <;> by_cases h5 : c ≤ 122 <;> simp [h1, h2, h3, h4, h5] <;> (first | omega | (subst h3; simp at *))
theorem t_in1 {c : Int} (h : 97 ≤ c ∧ c ≤ 122) : m_in c true = some true := by
 unfold m_in B_lex_in
 have h1 : ¬ c ≤ 57 := by omega
 have h2 : ¬ c = 95 := by omega
 simp [h1, h2, h.1, h.2]
theorem t_in1' {c : Int} (h : ¬ (97 ≤ c ∧ c ≤ 122)) : m_in c true = some false := by
 unfold m_in B_lex_in
 by_cases h1 : 48 ≤ c <;> by_cases h2 : c ≤ 57 <;> by_cases h3 : c = 95 <;> by_cases h4 : 97 ≤ c <;> by_cases h5 : c ≤ 122 <;> simp [h1, h2, h3, h4, h5] <;> (first | omega | (subst h3; simp at *) | (exact absurd ⟨h4, h5⟩ h))
theorem t_nc1 (c : Int) : m_nc1 c = some (nameB c) := by
 unfold m_nc1 B_lex_next_c1
 rw [t_in0]; rfl
theorem t_while (p : Int → Bool) (f : Int → Option Bool) (hf : ∀ c, f c = some (p c)) (w r : List UInt8) (hw : ∀ b ∈ w, p (b.toNat : Int) = true) (hr : ∀ c, r.head? = some c → p (c.toNat : Int) = false) (hl : w.length + r.length ≤ 140737488351232) :
  m_while (bs (w ++ r)) f = some (w.length : Int) := by
 unfold m_while B_lex_while
 have hsz : (bs (w ++ r)).size = w.length + r.length := by rw [bs_size, List.length_append]
 obtain ⟨v, h1, h2⟩ := iter_idx (f := lex_while_L0 (bs (w ++ r)) f) (fun i v => v = (i : Int)) w.length (fun v => v = (w.length : Int)) (fun i v hi hv => by
  subst hv
  left
  refine ⟨_, ?_, rfl⟩
  unfold lex_while_L0
  dsimp only
  rw [hsz, dlt (by omega : i < w.length + r.length)]
  have hsp : w ++ r = w.take i ++ w[i] :: (w.drop (i + 1) ++ r) := by
   rw [← List.cons_append, ← List.append_assoc, List.getElem_cons_drop, List.take_append_drop]
  have hg : getB (bs (w ++ r)) (i : Int) = some ((w[i]).toNat : Int) := by
   have := bs_getB (w.take i) w[i] (w.drop (i + 1) ++ r)
   rw [← hsp, List.length_take, Nat.min_eq_left (by omega)] at this
   exact this
  simp only [if_true, hg, Option.bind_some, hf, hw _ (List.getElem_mem hi), Bool.and_self, winc hi (ml (by omega))]) (fun v hv => by
  subst hv
  refine ⟨_, ?_, rfl⟩
  unfold lex_while_L0
  dsimp only
  rw [hsz]
  cases r with
  | nil => rw [List.length_nil, Nat.add_zero, dge]; simp
  | cons c r =>
   rw [dlt (by simp : w.length < w.length + (c :: r).length), bs_getB]
   simp [hf, hr c rfl]) (v0 := (0 : Int)) rfl
 rw [h1, h2]
 rfl
theorem t_hasP (a s : List UInt8) : m_hasP (bs a) (bs s) = some (s.isPrefixOf a) := by
 unfold m_hasP B_strings_HasPrefix m_hasP0 B_stringslite_HasPrefix
 rw [bs_size, bs_size]
 by_cases h : s.length ≤ a.length
 ·have e : decide (((s.length : Nat) : Int) ≤ ((a.length : Nat) : Int)) = true := decide_eq_true (by omega)
  have := bs_sub a 0 s.length (by omega) h
  rw [e]
  simp only [if_true, Bool.true_and]
  rw [show ((0 : Nat) : Int) = 0 from rfl] at this
  rw [this]
  simp only [Option.bind_some, List.drop_zero, Option.some.injEq, bs_inj]
  by_cases hp : s <+: a
  ·rw [List.isPrefixOf_iff_prefix.2 hp, List.prefix_iff_eq_take.1 hp]
   simp
  ·have : s.isPrefixOf a = false := by
    cases hb : s.isPrefixOf a with
    | false => rfl
    | true => exact absurd (List.isPrefixOf_iff_prefix.1 hb) hp
   rw [this]
   refine decide_eq_false fun he => hp ?_
   exact List.prefix_iff_eq_take.2 he.symm
 ·have e : decide (((s.length : Nat) : Int) ≤ ((a.length : Nat) : Int)) = false := decide_eq_false (by omega)
  rw [e]
  have : s.isPrefixOf a = false := by
   cases hb : s.isPrefixOf a with
   | false => rfl
   | true => exact absurd (List.isPrefixOf_iff_prefix.1 hb).length_le h
  rw [this]
  rfl
theorem nx_name (w r : List UInt8) (c : UInt8) (u : List UInt8) (hw : w = c :: u) (hc : 97 ≤ (c.toNat : Int) ∧ (c.toNat : Int) ≤ 122) (ha : ∀ b ∈ w, nameB (b.toNat : Int) = true) (hr : ∀ c, r.head? = some c → nameB (c.toNat : Int) = false) (hl : w.length + r.length ≤ 140737488351232) :
  m_next (bs (w ++ r)) = some (⟨1, bs w, 0, 0⟩, 0) := by
 unfold m_next B_lex_next
 have hg : getB (bs (w ++ r)) 0 = some (c.toNat : Int) := by rw [hw, List.cons_append, bs_get0]
 rw [hg]
 simp only [Option.bind_some, t_in1 hc, if_true]
 rw [t_while nameB _ (fun c => t_nc1 c) w r ha hr hl]
 have := bs_sub (w ++ r) 0 w.length (by omega) (by simp)
 rw [show ((0 : Nat) : Int) = 0 from rfl] at this
 simp only [Option.bind_some, this, List.drop_zero, List.take_left']
def digB (c : Int) : Bool := decide (48 ≤ c) && decide (c ≤ 57)
theorem nx_num (c : UInt8) (n : Int) (hn : m_lnum (bs [c]) = some (n, true)) (r : List UInt8) (hc : 48 ≤ (c.toNat : Int) ∧ (c.toNat : Int) ≤ 57) (hr : ∀ c, r.head? = some c → nameB (c.toNat : Int) = false) (hl : 1 + r.length ≤ 140737488351232) :
  m_next (bs ([c] ++ r)) = some (⟨2, bs [c], n, 0⟩, 0) := by
 unfold m_next B_lex_next
 have hg : getB (bs ([c] ++ r)) 0 = some (c.toNat : Int) := bs_get0 _ _
 have hd : m_dig (c.toNat : Int) = some true := by unfold m_dig B_lex_digit; rw [decide_eq_true hc.1, decide_eq_true hc.2]; rfl
 have hr' : ∀ c, r.head? = some c → digB (c.toNat : Int) = false := fun c h => by
  have := hr c h
  unfold nameB at this
  simp only [Bool.or_eq_false_iff] at this
  exact this.1.1
 have h1 := t_while digB (fun z0 => m_dig z0) (fun c => rfl) [c] r (fun b hb => by
  obtain rfl := List.mem_singleton.1 hb
  unfold digB
  rw [decide_eq_true hc.1, decide_eq_true hc.2]; rfl) hr' hl
 have h2 := bs_sub ([c] ++ r) 0 1 (by omega) (by simp)
 rw [show ((0 : Nat) : Int) = 0 from rfl] at h2
 rw [hg]
 simp only [Option.bind_some, t_in1' (c := (c.toNat : Int)) (by omega), Bool.false_eq_true, if_false, hd, if_true]
 rw [h1]
 simp only [Option.bind_some, List.length_cons, List.length_nil, Nat.zero_add, h2]
 simp [hn]
theorem nx_sign (w r : List UInt8) (j : Nat) (c : UInt8) (u : List UInt8) (hw : w = c :: u) (hc : nameB (c.toNat : Int) = false) (hj : lex_signs_K0[j]? = some (bs w)) (hno : ((lex_signs_K0.take j).all fun s => !(s.data.toList.isPrefixOf (w ++ r))) = true) :
  m_next (bs (w ++ r)) = some (⟨3, bs w, 0, 0⟩, 0) := by
 have hjl := (List.getElem?_eq_some_iff.1 hj).1
 have hg : getB (bs (w ++ r)) 0 = some (c.toNat : Int) := by rw [hw, List.cons_append, bs_get0]
 unfold nameB at hc
 simp only [Bool.or_eq_false_iff, Bool.and_eq_false_iff, decide_eq_false_iff_not] at hc
 have hd : m_dig (c.toNat : Int) = some false := by
  unfold m_dig B_lex_digit
  rcases hc.1.1 with h | h
  ·rw [decide_eq_false h]; rfl
  ·rw [decide_eq_false h, Bool.and_false]
 have hin : m_in (c.toNat : Int) true = some false := t_in1' (by rcases hc.2 with h | h <;> omega)
 obtain ⟨v, h1, h2⟩ := iter_idx (f := lex_next_L0 lex_signs_K0 (bs (w ++ r)) m_hasP) (fun i v => v = ((i : Int), lex_Token.mk 0 (bs []) 0 0)) j (fun v => v = .inl (lex_Token.mk 3 (bs w) 0 0, 0)) (fun i v hi hv => by
  subst hv
  left
  refine ⟨_, ?_, rfl⟩
  unfold lex_next_L0
  dsimp only
  have hb : (lex_signs_K0[i]'(by omega)).data.toList.isPrefixOf (w ++ r) = false := by
   have := List.all_eq_true.1 hno (lex_signs_K0[i]'(by omega)) (by rw [← List.getElem_take (j := j) (h := by rw [List.length_take]; omega)]; exact List.getElem_mem _)
   simpa using this
  have hbs : lex_signs_K0[i]'(by omega) = bs (lex_signs_K0[i]'(by omega)).data.toList := by simp [bs]
  simp only [dlt (by omega : i < lex_signs_K0.length), if_true, getI_at (by omega : i < lex_signs_K0.length), Option.bind_some]
  rw [hbs, t_hasP, hb]
  simp only [Option.bind_some, Bool.false_eq_true, if_false, winc (by omega : i < lex_signs_K0.length) (by unfold maxLen; decide)]) (fun v hv => by
  subst hv
  refine ⟨_, ?_, rfl⟩
  unfold lex_next_L0
  dsimp only
  have hjj : lex_signs_K0[j] = bs w := by have := List.getElem?_eq_getElem hjl; rw [hj] at this; exact (Option.some.inj this).symm
  simp only [dlt hjl, if_true, getI_at hjl, Option.bind_some]
  rw [hjj, t_hasP, List.isPrefixOf_iff_prefix.2 (List.prefix_append _ _)]
  simp) (v0 := ((0 : Int), lex_Token.mk 0 (bs []) 0 0)) rfl
 unfold m_next B_lex_next
 rw [hg]
 simp only [Option.bind_some, hin, Bool.false_eq_true, if_false, hd]
 unfold m_signs B_lex_signs
 simp only [Option.bind_some]
 rw [show (⟨#[]⟩ : ByteArray) = bs [] from rfl, h1, h2]
 rfl
def nbl (c : UInt8) : Bool := c != 35 && c != 32 && c != 9 && c != 10
theorem nbl_ne {c : UInt8} (h : nbl c = true) : (c.toNat : Int) ≠ 35 ∧ (c.toNat : Int) ≠ 32 ∧ (c.toNat : Int) ≠ 9 ∧ (c.toNat : Int) ≠ 10 := by
 unfold nbl at h
 simp only [Bool.and_eq_true, bne_iff_ne, ne_eq] at h
 refine ⟨fun e => h.1.1.1 ?_, fun e => h.1.1.2 ?_, fun e => h.1.2 ?_, fun e => h.2 ?_⟩ <;> exact UInt8.toNat_inj.1 (by have := Int.ofNat.inj e; exact this)
theorem bl_stop {a : List UInt8} {c : UInt8} {r : List UInt8} (hc : nbl c = true) (hl : (a ++ c :: r).length ≤ 140737488351232) : lex_blank_L0 (bs (a ++ c :: r)) (a.length : Int) = some (.inr (.inl (a.length : Int))) := by
 obtain ⟨h1, h2, h3, h4⟩ := nbl_ne hc
 unfold lex_blank_L0
 dsimp only
 rw [bs_size, dlt (by simp : a.length < (a ++ c :: r).length), bs_getB]
 simp [h1, h2, h3, h4]
theorem bl_0 : m_blank (bs []) = some 0 := by
 unfold m_blank B_lex_blank
 rw [iterO_end (r := .inr 0) (by unfold lex_blank_L0; rw [bs_size]; rfl)]
 rfl
theorem bl_n {c : UInt8} {r : List UInt8} (hc : nbl c = true) (hl : (c :: r).length ≤ 140737488351232) : m_blank (bs (c :: r)) = some 0 := by
 unfold m_blank B_lex_blank
 have := bl_stop (a := []) hc hl
 rw [List.nil_append, List.length_nil] at this
 rw [iterO_end (r := .inl 0) this]
 rfl
theorem bl_s {c : UInt8} {r : List UInt8} (hc : nbl c = true) (hl : (32 :: c :: r).length ≤ 140737488351232) : m_blank (bs (32 :: c :: r)) = some 1 := by
 unfold m_blank B_lex_blank
 have h0 : lex_blank_L0 (bs (32 :: c :: r)) 0 = some (.inl 1) := by
  unfold lex_blank_L0
  dsimp only
  rw [bs_size, bs_get0]
  simp
  rw [if_pos (by omega)]
  rfl
 have := bl_stop (a := [32]) hc hl
 rw [List.cons_append, List.nil_append] at this
 rw [iterO_next h0, iterO_end (r := .inl 1) this]
 rfl
inductive Pk where
 | flow | f | eq | lp | rp | tail | seven | fby | x | ov | two | semi | three | g
 deriving DecidableEq
def Pk.w : Pk → List UInt8
 | .flow => [102, 108, 111, 119]
 | .f => [102]
 | .eq => [61]
 | .lp => [40]
 | .rp => [41]
 | .tail => [116, 97, 105, 108]
 | .seven => [55]
 | .fby => [102, 98, 121]
 | .x => [120]
 | .ov => [42, 94]
 | .two => [50]
 | .semi => [59]
 | .three => [51]
 | .g => [103]
def Pk.k : Pk → Int
 | .flow | .f | .tail | .fby | .x | .g => 1
 | .seven | .two | .three => 2
 | _ => 3
def Pk.n : Pk → Int
 | .seven => 7
 | .two => 2
 | .three => 3
 | _ => 0
def text : List (Bool × Pk) → List UInt8
 | [] => []
 | (b, k) :: ps => (if b then [32] else []) ++ k.w ++ text ps
theorem text_app (a b : List (Bool × Pk)) : text (a ++ b) = text a ++ text b := by
 induction a with
 | nil => rfl
 | cons p a ih => obtain ⟨s, k⟩ := p; simp [text, ih]
def Pk.sgn : Pk → Bool
 | .eq | .lp | .rp | .ov | .semi => true
 | _ => false
def fol (k : Pk) (ps : List (Bool × Pk)) : Bool := match k, ps with
 | .eq, (b, _) :: _ => b
 | .eq, [] => false
 | .lp, _ | .rp, _ | .ov, _ | .semi, _ => true
 | _, [] => true
 | _, (b, q) :: _ => b || q.sgn
def okp : List (Bool × Pk) → Bool
 | [] => true
 | (_, k) :: ps => fol k ps && okp ps
theorem Pk.cons (k : Pk) : ∃ c u, k.w = c :: u ∧ nbl c = true ∧ (k.sgn = true → nameB (c.toNat : Int) = false) := by
 cases k <;> exact ⟨_, _, rfl, rfl, by first | exact fun h => rfl | (intro h; cases h)⟩
theorem fol_head {k : Pk} {ps : List (Bool × Pk)} (hn : k.sgn = false) (h : fol k ps = true) : ∀ c, (text ps).head? = some c → nameB (c.toNat : Int) = false := by
 intro c hc
 cases ps with
 | nil => cases hc
 | cons p ps =>
  obtain ⟨b, q⟩ := p
  cases b with
  | true =>
   simp [text] at hc
   subst hc
   rfl
  | false =>
   have hq : q.sgn = true := by cases k <;> first | (cases hn; done) | simpa [fol] using h
   obtain ⟨c', u, h1, _, h3⟩ := q.cons
   simp [text, h1] at hc
   subst hc
   exact h3 hq
theorem num1 (c : UInt8) (n : Int) (h1 : (c.toNat : Int) = 48 + n) (h2 : 0 ≤ n ∧ n < 10) : m_lnum (bs [c]) = some (n, true) := by
 have hs : strInts (bs [c]) = [(c.toNat : Int)] := rfl
 unfold m_lnum B_lex_number
 have e1 : lex_number_L0 (bs [c]) (0, 0) = some (.inl (n, 1)) := by
  unfold lex_number_L0
  dsimp only
  rw [hs]
  have hu : IntKind.u8.wrap ((c.toNat : Int) - 48) = n := by
   rw [h1, show (48 + n - 48 : Int) = n by omega]
   unfold IntKind.wrap IntKind.bits
   simp [IntKind.signed, IntKind.bits]
   omega
  have hw : IntKind.i64.wrap n = n := wrap_i (by omega) (by omega)
  have h0 : getI [(c.toNat : Int)] 0 = some (c.toNat : Int) := rfl
  rw [h0]
  have e2 : IntKind.i64.wrap (IntKind.i64.wrap (0 * 10) + IntKind.i64.wrap (IntKind.u8.wrap ((c.toNat : Int) - 48))) = n := by
   rw [hu, hw, show (0 * 10 : Int) = 0 from rfl, wrap_i (n := 0) (by omega) (by omega), Int.zero_add, hw]
  simp only [Option.bind_some, e2]
  rw [decide_eq_false (by omega : ¬ (1000000000 : Int) < n)]
  rfl
 rw [iterO_next e1, iterO_end (r := .inr n) (by unfold lex_number_L0; dsimp only; rw [hs]; rfl)]
 rfl
theorem nx (k : Pk) (ps : List (Bool × Pk)) (h : fol k ps = true) (hl : (k.w ++ text ps).length ≤ 140737488351232) : m_next (bs (k.w ++ text ps)) = some (⟨k.k, bs k.w, k.n, 0⟩, 0) := by
 rw [List.length_append] at hl
 have nm : ∀ (c : UInt8) (u : List UInt8), k.w = c :: u → k.k = 1 → k.n = 0 → k.sgn = false → 97 ≤ (c.toNat : Int) ∧ (c.toNat : Int) ≤ 122 → (k.w.all fun b => nameB (b.toNat : Int)) = true → m_next (bs (k.w ++ text ps)) = some (⟨k.k, bs k.w, k.n, 0⟩, 0) := fun c u h1 h2 h3 h4 h5 h6 => by
  rw [h2, h3]
  exact nx_name _ _ c u h1 h5 (fun b hb => List.all_eq_true.1 h6 b hb) (fol_head h4 h) hl
 have sg : ∀ (j : Nat) (c : UInt8) (u : List UInt8), k.w = c :: u → k.k = 3 → k.n = 0 → nameB (c.toNat : Int) = false → lex_signs_K0[j]? = some (bs k.w) → ((lex_signs_K0.take j).all fun s => !(s.data.toList.isPrefixOf (k.w ++ text ps))) = true → m_next (bs (k.w ++ text ps)) = some (⟨k.k, bs k.w, k.n, 0⟩, 0) := fun j c u h1 h2 h3 h4 h5 h6 => by
  rw [h2, h3]
  exact nx_sign _ _ j c u h1 h4 h5 h6
 cases k with
 | flow => exact nm _ _ rfl rfl rfl rfl (by decide) rfl
 | f => exact nm _ _ rfl rfl rfl rfl (by decide) rfl
 | tail => exact nm _ _ rfl rfl rfl rfl (by decide) rfl
 | fby => exact nm _ _ rfl rfl rfl rfl (by decide) rfl
 | x => exact nm _ _ rfl rfl rfl rfl (by decide) rfl
 | g => exact nm _ _ rfl rfl rfl rfl (by decide) rfl
 | seven => exact nx_num 55 7 (num1 55 7 rfl (by omega)) _ (by decide) (fol_head rfl h) hl
 | two => exact nx_num 50 2 (num1 50 2 rfl (by omega)) _ (by decide) (fol_head rfl h) hl
 | three => exact nx_num 51 3 (num1 51 3 rfl (by omega)) _ (by decide) (fol_head rfl h) hl
 | ov => exact sg 0 _ _ rfl rfl rfl rfl rfl rfl
 | lp => exact sg 5 _ _ rfl rfl rfl rfl rfl rfl
 | rp => exact sg 6 _ _ rfl rfl rfl rfl rfl rfl
 | semi => exact sg 10 _ _ rfl rfl rfl rfl rfl rfl
 | eq =>
  cases ps with
  | nil => cases h
  | cons p ps =>
   obtain ⟨b, q⟩ := p
   have hb : b = true := h
   subst hb
   exact sg 11 _ _ rfl rfl rfl rfl rfl rfl
def key (t : lex_Token) : Int × ByteArray × Int := (t.kind, t.text, t.n)
def Pk.key (k : Pk) : Int × ByteArray × Int := (k.k, bs k.w, k.n)
theorem t_blank (ps : List (Bool × Pk)) (hl : (text ps).length ≤ 140737488351232) : ∃ n : Nat, m_blank (bs (text ps)) = some (n : Int) ∧ n ≤ 1 ∧ n ≤ (text ps).length ∧ (text ps).drop n = (match ps with | [] => [] | (_, k) :: ps => k.w ++ text ps) := by
 cases ps with
 | nil => exact ⟨0, bl_0, by omega, by omega, rfl⟩
 | cons p ps =>
  obtain ⟨b, k⟩ := p
  obtain ⟨c, u, h1, h2, _⟩ := k.cons
  cases b with
  | true =>
   have e : text ((true, k) :: ps) = 32 :: c :: (u ++ text ps) := by simp [text, h1]
   rw [e] at hl ⊢
   exact ⟨1, bl_s h2 hl, by omega, by simp, by simp [h1]⟩
  | false =>
   have e : text ((false, k) :: ps) = c :: (u ++ text ps) := by simp [text, h1]
   rw [e] at hl ⊢
   exact ⟨0, bl_n h2 hl, by omega, by simp, by simp [h1]⟩
theorem lex_run : ∀ (ps : List (Bool × Pk)) (b : Bool) (k : Pk) (pre : List UInt8) (out : List lex_Token), okp ((b, k) :: ps) = true → (pre ++ (k.w ++ text ps)).length ≤ 4000 → out.length + ps.length + 1 ≤ 4000 →
  ∃ L, iterO (lex_Lex_L0 (bs (pre ++ (k.w ++ text ps))) m_blank m_next) (out, (pre.length : Int)) = some (.inr (out ++ L)) ∧ L.map key = k.key :: ps.map fun p => p.2.key
 | ps, b, k, pre, out, hok, hl, hn => by
  have hlen : (pre ++ (k.w ++ text ps)).length = pre.length + (k.w.length + (text ps).length) := by simp
  obtain ⟨c, u, hcu, _, _⟩ := k.cons
  have hpos : 0 < k.w.length := by rw [hcu]; simp
  have hf : fol k ps = true := by simp [okp] at hok; exact hok.1
  have hsub1 := bs_sub (pre ++ (k.w ++ text ps)) pre.length (pre ++ (k.w ++ text ps)).length (by omega) (by omega)
  rw [List.take_length, List.drop_left] at hsub1
  have hnx := nx k ps hf (by simp at hl ⊢; omega)
  have hsub2 := bs_sub (pre ++ (k.w ++ text ps)) (pre.length + k.w.length) (pre ++ (k.w ++ text ps)).length (by omega) (by omega)
  rw [List.take_length, ← List.append_assoc, show pre.length + k.w.length = (pre ++ k.w).length by simp, List.drop_left, List.append_assoc] at hsub2
  obtain ⟨n, hb1, hb2, hb3, hb4⟩ := t_blank ps (by omega)
  have happ : appO 40 out [lex_Token.mk k.k (bs k.w) k.n (pre.length : Int)] = some (out ++ [lex_Token.mk k.k (bs k.w) k.n (pre.length : Int)]) := by
   unfold appO
   rw [if_pos (by simp; omega)]
  have hw1 : IntKind.i64.wrap ((pre.length : Int) + ((k.w.length : Nat) : Int)) = (((pre ++ k.w).length : Nat) : Int) := by rw [wrap_i (by omega) (by omega)]; simp
  have hw2 : IntKind.i64.wrap ((((pre ++ k.w).length : Nat) : Int) + (n : Int)) = (((pre ++ k.w).length + n : Nat) : Int) := by
   rw [wrap_i (by omega) (by simp at hlen ⊢; omega)]; simp
  have step : lex_Lex_L0 (bs (pre ++ (k.w ++ text ps))) m_blank m_next (out, (pre.length : Int)) = some (.inl (out ++ [lex_Token.mk k.k (bs k.w) k.n (pre.length : Int)], (((pre ++ k.w).length + n : Nat) : Int))) := by
   unfold lex_Lex_L0
   dsimp only
   rw [bs_size, dlt (by omega : pre.length < (pre ++ (k.w ++ text ps)).length)]
   simp only [if_true, hsub1, Option.bind_some, hnx, decide_true, Bool.not_true, Bool.false_eq_true, if_false, happ, bs_size, hw1, hsub2, hb1, hw2]
  rw [iterO_next step]
  cases ps with
  | nil =>
   have hn0 : n = 0 := by simp [text] at hb3; exact hb3
   subst hn0
   refine ⟨[lex_Token.mk k.k (bs k.w) k.n (pre.length : Int)], ?_, rfl⟩
   refine iterO_end ?_
   unfold lex_Lex_L0
   dsimp only
   rw [bs_size, show (pre ++ (k.w ++ text [])).length = (pre ++ k.w).length + 0 by simp [text], dge]
   rfl
  | cons p ps =>
   obtain ⟨b2, k2⟩ := p
   have hsp : text ((b2, k2) :: ps) = (text ((b2, k2) :: ps)).take n ++ (k2.w ++ text ps) := by
    have := List.take_append_drop n (text ((b2, k2) :: ps))
    rw [hb4] at this
    exact this.symm
   have hall : pre ++ (k.w ++ text ((b2, k2) :: ps)) = (pre ++ k.w ++ (text ((b2, k2) :: ps)).take n) ++ (k2.w ++ text ps) := by
    conv => lhs; rw [hsp]
    simp
   have hpl : (pre ++ k.w ++ (text ((b2, k2) :: ps)).take n).length = (pre ++ k.w).length + n := by
    rw [List.length_append, List.length_take, Nat.min_eq_left hb3]
   rw [hall]
   have hok2 : okp ((b2, k2) :: ps) = true := by
    have := hok
    rw [okp, Bool.and_eq_true] at this
    exact this.2
   obtain ⟨L, h1, h2⟩ := lex_run ps b2 k2 (pre ++ k.w ++ (text ((b2, k2) :: ps)).take n) (out ++ [lex_Token.mk k.k (bs k.w) k.n (pre.length : Int)]) hok2 (by rw [← hall]; exact hl) (by simp at hn ⊢; omega)
   rw [hpl] at h1
   refine ⟨lex_Token.mk k.k (bs k.w) k.n (pre.length : Int) :: L, by rw [h1]; simp, ?_⟩
   rw [List.map_cons, h2]
   rfl
theorem t_Lex (k : Pk) (ps : List (Bool × Pk)) (hok : okp ((false, k) :: ps) = true) (hl : (text ((false, k) :: ps)).length ≤ 4000) (hn : ps.length + 1 ≤ 4000) :
  ∃ L, m_Lex (bs (text ((false, k) :: ps))) = some (L, 0, 0) ∧ L.map key = k.key :: ps.map fun p => p.2.key := by
 have e : text ((false, k) :: ps) = [] ++ (k.w ++ text ps) := by simp [text]
 obtain ⟨L, h1, h2⟩ := lex_run ps false k [] [] hok (by rw [← e]; exact hl) (by simpa using hn)
 obtain ⟨c, u, hcu, hnb, _⟩ := k.cons
 rw [← e] at h1
 refine ⟨L, ?_, h2⟩
 unfold m_Lex B_lex_Lex
 rw [bs_size, decide_eq_false (by omega)]
 have hb : m_blank (bs (text ((false, k) :: ps))) = some 0 := by
  have : text ((false, k) :: ps) = c :: (u ++ text ps) := by simp [text, hcu]
  rw [this] at hl ⊢
  exact bl_n hnb (by omega)
 simp only [Bool.false_eq_true, if_false, hb, Option.bind_some]
 rw [show (0 : Int) = (([] : List UInt8).length : Int) from rfl, h1]
 simp
end Go.Proofs.Ytohmmfimedgccaa.E
end
section
namespace Go.Proofs.Ytohmmfimedgccaa.E
set_option maxRecDepth 100000
set_option maxHeartbeats 4000000
set_option linter.unusedVariables false
set_option linter.unusedSimpArgs false
noncomputable def B_syntax_reader_now (a0 : syntax_reader) : Option lex_Token :=
 if (decide (((List.length a0.l : Nat) : Int) ≤ a0.pos)) then
  some (lex_Token.mk (0 : Int) (⟨#[]⟩ : ByteArray) (0 : Int) a0.end_)
 else
  (getI a0.l a0.pos).bind fun y2 =>
  some y2
abbrev syntax_reader_now_A0 (a0 : syntax_reader) : List PV := [(.v (.int .i64 (0 : Int))), (.v (.string (⟨#[]⟩ : ByteArray))), (.v (.int .i64 (0 : Int))), (.v (.int .i64 a0.end_))]
theorem W_syntax_reader_now : Sat_syntax_reader_now (B_syntax_reader_now) := by
 intro a0 r h σ K j0 H0 hK
 refine w_fp Try.func79 rfl rfl (by kernel_rfl) ?_
 unfold B_syntax_reader_now at h
 have hP := Pre.refl σ
 have jl0 := H0.lt
 have E0 : argE [(.pt j0 0)] 0 = (.pt j0 0) := rfl
 have TT := cj9 Expr.rlen T_155 T_2 T_27 T_3 T_30 T_81 T_85 T_9
 refine w_sa (fun e s => ∃ i2 : Nat, Gx s j0 (AObj.box 155 [(.sl (List.map lex_Token.cl a0.l)), (.v (.int .i64 a0.end_)), (.v (.int .i64 a0.pos)), (.v (.int .i64 a0.at_)), (.v (.int .i64 a0.e)), (oz (List.map Node.cl a0.p.nodes)), (oz (List.map Input.cl a0.p.inputs)), (oz (List.map Flow.cl a0.p.flows)), (oz (List.map Output.cl a0.p.outputs))]) ∧ Bx σ s i2 85 [(.v (.int .i64 (0 : Int))), (.v (.string (⟨#[]⟩ : ByteArray))), (.v (.int .i64 (0 : Int))), (.v (.int .i64 (0 : Int)))] ∧ e 0 = (.pt j0 0) ∧ e 2 = (.pt i2 0) ∧ j0 ≠ i2 ∧ Pre σ s) ?_ fun e s hI => ?_
 ·refine w_x (cj5 E0 H0.get H0.any H0.any2 TT) (k := ?_)
  have q1 := cj5 E0 H0.get H0.any H0.any2 TT
  exact cw_n ⟨_, WkE.refl _, σ.length, (H0.app [some (AObj.box 85 [(.v (.int .i64 (0 : Int))), (.v (.string (⟨#[]⟩ : ByteArray))), (.v (.int .i64 (0 : Int))), (.v (.int .i64 (0 : Int)))])]), (Bx.new hP 85 [(.v (.int .i64 (0 : Int))), (.v (.string (⟨#[]⟩ : ByteArray))), (.v (.int .i64 (0 : Int))), (.v (.int .i64 (0 : Int)))]), (xv q1), (xv q1), (Nat.ne_of_lt H0.lt), (hP.app _)⟩
 obtain ⟨i2, X0, X2, E0, E2, N0__2, hP⟩ := hI
 refine w_assoc ?_
 refine w_sa (fun e s => Gx s j0 (AObj.box 155 [(.sl (List.map lex_Token.cl a0.l)), (.v (.int .i64 a0.end_)), (.v (.int .i64 a0.pos)), (.v (.int .i64 a0.at_)), (.v (.int .i64 a0.e)), (oz (List.map Node.cl a0.p.nodes)), (oz (List.map Input.cl a0.p.inputs)), (oz (List.map Flow.cl a0.p.flows)), (oz (List.map Output.cl a0.p.outputs))]) ∧ Bx σ s i2 85 [(.v (.int .i64 (0 : Int))), (.v (.string (⟨#[]⟩ : ByteArray))), (.v (.int .i64 (0 : Int))), (.v (.int .i64 (0 : Int)))] ∧ e 0 = (.pt j0 0) ∧ e 2 = (.pt i2 0) ∧ e 12 = (.v (.bool (decide (((List.length a0.l : Nat) : Int) ≤ a0.pos)))) ∧ j0 ≠ i2 ∧ Pre σ s) ?_ fun e s hI => ?_
 ·refine w_xp (cj5 E0 E2 X0.get X2.get TT) (k := ?_)
  have q2 := cj5 E0 E2 X0.get X2.get TT
  exact cw_n ⟨_, WkE.refl _, X0, X2, (xv q2), (xv q2), (xv q2), N0__2, hP⟩
 obtain ⟨X0, X2, E0, E2, E12, N0__2, hP⟩ := hI
 refine w_seq ?_
 rcases ite_some h with ⟨hb1, h⟩ | ⟨hb1, h⟩
 ·refine xt (cj4 E0 E2 E12 hb1) ?_
  refine w_sa (fun e s => Bx σ s i2 85 (syntax_reader_now_A0 a0) ∧ e 2 = (.pt i2 0) ∧ Pre σ s) ?_ fun e s hI => ?_
  ·refine w_x (cj8 E0 E2 E12 X0.get X2.get (X0.ne (Ne.symm N0__2) (some (AObj.box 85 (syntax_reader_now_A0 a0)))).get (X2.same 85 (syntax_reader_now_A0 a0)).get TT) (k := ?_)
   have q3 := X2.same 85 (syntax_reader_now_A0 a0)
   exact cw_n ⟨_, WkE.refl _, q3, (xv (cj8 E0 E2 E12 X0.get X2.get (X0.ne (Ne.symm N0__2) (some (AObj.box 85 (syntax_reader_now_A0 a0)))).get q3.get TT)), (hP.set X2.le (some (AObj.box 85 (syntax_reader_now_A0 a0))))⟩
  obtain ⟨X2, E2, hP⟩ := hI
  refine w_ret ?_
  refine w_sqr ?_
  obtain rfl := some_inj h
  exact w_fin (fun _ => rfl) (xr (rs := #[.cell 2 85]) (cj3 X2.get E2 TT)) hP (r' := (.ag (syntax_reader_now_A0 a0))) (.refl _) (.ag (CnL.cons (.v _) (CnL.cons (.v _) (CnL.cons (.v _) (CnL.cons (.v _) CnL.nil))))) hK
 ·refine xf (cj4 E0 E2 E12 hb1) ?_
  refine w_skip ?_
  refine w_sq ?_
  obtain ⟨y2, h3, h⟩ := bnd_some h
  refine w_sa (fun e s => Bx σ s i2 85 [(.v (.int .i64 y2.kind)), (.v (.string y2.text)), (.v (.int .i64 y2.n)), (.v (.int .i64 y2.at_))] ∧ e 2 = (.pt i2 0) ∧ Pre σ s) ?_ fun e s hI => ?_
  ·have R4 : (List.map lex_Token.cl a0.l)[(a0.pos).toNat]? = some [(.v (.int .i64 y2.kind)), (.v (.string y2.text)), (.v (.int .i64 y2.n)), (.v (.int .i64 y2.at_))] := map_get (getI_some h3).2
   refine w_xd 8 0 (cj10 E0 E2 E12 X0.get X2.get R4 (getI_some h3).1 (X0.ne (Ne.symm N0__2) (some (AObj.box 85 [(.v (.int .i64 y2.kind)), (.v (.string y2.text)), (.v (.int .i64 y2.n)), (.v (.int .i64 y2.at_))]))).get (X2.same 85 [(.v (.int .i64 y2.kind)), (.v (.string y2.text)), (.v (.int .i64 y2.n)), (.v (.int .i64 y2.at_))]).get TT) (hk := ?_)
   refine w_xs (cj10 E0 E2 E12 X0.get X2.get R4 (getI_some h3).1 (X0.ne (Ne.symm N0__2) (some (AObj.box 85 [(.v (.int .i64 y2.kind)), (.v (.string y2.text)), (.v (.int .i64 y2.n)), (.v (.int .i64 y2.at_))]))).get (X2.same 85 [(.v (.int .i64 y2.kind)), (.v (.string y2.text)), (.v (.int .i64 y2.n)), (.v (.int .i64 y2.at_))]).get TT) (k := ?_)
   have q4 := X2.same 85 [(.v (.int .i64 y2.kind)), (.v (.string y2.text)), (.v (.int .i64 y2.n)), (.v (.int .i64 y2.at_))]
   exact cw_n ⟨_, WkE.refl _, q4, (xv (cj10 E0 E2 E12 X0.get X2.get R4 (getI_some h3).1 (X0.ne (Ne.symm N0__2) (some (AObj.box 85 [(.v (.int .i64 y2.kind)), (.v (.string y2.text)), (.v (.int .i64 y2.n)), (.v (.int .i64 y2.at_))]))).get q4.get TT)), (hP.set X2.le (some (AObj.box 85 [(.v (.int .i64 y2.kind)), (.v (.string y2.text)), (.v (.int .i64 y2.n)), (.v (.int .i64 y2.at_))])))⟩
  obtain ⟨X2, E2, hP⟩ := hI
  refine w_ret ?_
  obtain rfl := some_inj h
  exact w_fin (fun _ => rfl) (xr (rs := #[.cell 2 85]) (cj3 X2.get E2 TT)) hP (r' := (.ag [(.v (.int .i64 y2.kind)), (.v (.string y2.text)), (.v (.int .i64 y2.n)), (.v (.int .i64 y2.at_))])) (.refl _) (.ag (CnL.cons (.v _) (CnL.cons (.v _) (CnL.cons (.v _) (CnL.cons (.v _) CnL.nil))))) hK
noncomputable def B_syntax_reader_fail (a0 : syntax_reader) (a1 : Int) (a2 : Int) : Option (Unit × syntax_reader) :=
 (if (decide (a0.e = (0 : Int))) then
  some (syntax_reader.mk a0.l a0.end_ a0.pos a1 a2 a0.p)
 else
  some a0 : Option syntax_reader).bind fun vr_3 =>
 some ((), vr_3)
abbrev syntax_reader_fail_A0 (a0 : syntax_reader) (a1 : Int) : List PV := [(.sl (List.map lex_Token.cl a0.l)), (.v (.int .i64 a0.end_)), (.v (.int .i64 a0.pos)), (.v (.int .i64 a1)), (.v (.int .i64 a0.e)), (oz (List.map Node.cl a0.p.nodes)), (oz (List.map Input.cl a0.p.inputs)), (oz (List.map Flow.cl a0.p.flows)), (oz (List.map Output.cl a0.p.outputs))]
abbrev syntax_reader_fail_A1 (a0 : syntax_reader) (a1 : Int) (a2 : Int) : List PV := [(.sl (List.map lex_Token.cl a0.l)), (.v (.int .i64 a0.end_)), (.v (.int .i64 a0.pos)), (.v (.int .i64 a1)), (.v (.int .i64 a2)), (oz (List.map Node.cl a0.p.nodes)), (oz (List.map Input.cl a0.p.inputs)), (oz (List.map Flow.cl a0.p.flows)), (oz (List.map Output.cl a0.p.outputs))]
theorem W_syntax_reader_fail : Sat_syntax_reader_fail (B_syntax_reader_fail) := by
 intro a0 a1 a2 r h σ K j0 H0 hK
 refine w_fq (Q := fun r s => ∃ l : List (Nat × AObj), (l.map (·.1)).Nodup ∧ (∀ x ∈ l, x.1 < σ.length ∧ ClO σ.length x.2) ∧ Pq σ l K r s) Try.func80 rfl rfl (by kernel_rfl) (fun _ _ h => h) ?_
 unfold B_syntax_reader_fail at h
 have hP := Pre.refl σ
 have jl0 := H0.lt
 have hF := Fr.refl σ [j0]
 have E0 : argE [(.pt j0 0), (.v (.int .i64 a1)), (.v (.int .i64 a2))] 0 = (.pt j0 0) := rfl
 have E1 : argE [(.pt j0 0), (.v (.int .i64 a1)), (.v (.int .i64 a2))] 1 = (.v (.int .i64 a1)) := rfl
 have E2 : argE [(.pt j0 0), (.v (.int .i64 a1)), (.v (.int .i64 a2))] 2 = (.v (.int .i64 a2)) := rfl
 have TT := cj6 Expr.rlen T_155 T_27 T_3 T_30 T_81
 refine w_sa (fun e s => ∃ τ : Store, Gx s j0 (AObj.box 155 [(.sl (List.map lex_Token.cl a0.l)), (.v (.int .i64 a0.end_)), (.v (.int .i64 a0.pos)), (.v (.int .i64 a0.at_)), (.v (.int .i64 a0.e)), (oz (List.map Node.cl a0.p.nodes)), (oz (List.map Input.cl a0.p.inputs)), (oz (List.map Flow.cl a0.p.flows)), (oz (List.map Output.cl a0.p.outputs))]) ∧ e 0 = (.pt j0 0) ∧ e 1 = (.v (.int .i64 a1)) ∧ e 2 = (.v (.int .i64 a2)) ∧ e 10 = (.v (.bool (decide (a0.e = (0 : Int))))) ∧ Fr σ τ [j0] ∧ Pre τ s) ?_ fun e s hI => ?_
 ·refine w_x (cj5 E0 E1 E2 H0.get TT) (k := ?_)
  have q1 := cj5 E0 E1 E2 H0.get TT
  exact cw_n ⟨_, WkE.refl _, σ, H0, (xv q1), (xv q1), (xv q1), (xv q1), hF, hP⟩
 obtain ⟨τ, X0, E0, E1, E2, E10, hF, hP⟩ := hI
 obtain ⟨x1, h2, h⟩ := bnd_some h
 refine w_an (fun e s => ∃ vr_3 : syntax_reader, ∃ τ : Store, vr_3 = x1 ∧ Gx s j0 (AObj.box 155 [(.sl (List.map lex_Token.cl vr_3.l)), (.v (.int .i64 vr_3.end_)), (.v (.int .i64 vr_3.pos)), (.v (.int .i64 vr_3.at_)), (.v (.int .i64 vr_3.e)), (oz (List.map Node.cl vr_3.p.nodes)), (oz (List.map Input.cl vr_3.p.inputs)), (oz (List.map Flow.cl vr_3.p.flows)), (oz (List.map Output.cl vr_3.p.outputs))]) ∧ Fr σ τ [j0] ∧ Pre τ s) ?_ fun e s hI => ?_
 ·rcases ite_some h2 with ⟨hb4, h2⟩ | ⟨hb4, h2⟩
  ·refine xt (cj5 E0 E1 E2 E10 hb4) ?_
   have q2 := Gx.same X0 (AObj.box 155 (syntax_reader_fail_A0 a0 a1))
   refine w_x (cj8 E0 E1 E2 E10 X0.get q2.get (Gx.same q2 (AObj.box 155 (syntax_reader_fail_A1 a0 a1 a2))).get TT) (k := ?_)
   obtain rfl := some_inj h2
   exact ct_n ⟨_, (List.set (List.set τ j0 (some (AObj.box 155 (syntax_reader_fail_A0 a0 a1)))) j0 (some (AObj.box 155 (syntax_reader_fail_A1 a0 a1 a2)))), rfl, (Gx.same (Gx.same X0 (AObj.box 155 (syntax_reader_fail_A0 a0 a1))) (AObj.box 155 (syntax_reader_fail_A1 a0 a1 a2))), ((hF.set (by simp) (some (AObj.box 155 (syntax_reader_fail_A0 a0 a1)))).set (by simp) (some (AObj.box 155 (syntax_reader_fail_A1 a0 a1 a2)))), ((hP.setp (hF.lt jl0) (some (AObj.box 155 (syntax_reader_fail_A0 a0 a1)))).setp ((hF.set (by simp) (some (AObj.box 155 (syntax_reader_fail_A0 a0 a1)))).lt jl0) (some (AObj.box 155 (syntax_reader_fail_A1 a0 a1 a2))))⟩
  ·refine xf (cj5 E0 E1 E2 E10 hb4) ?_
   refine w_skip ?_
   obtain rfl := some_inj h2
   exact ct_n ⟨_, τ, rfl, X0, hF, hP⟩
 obtain ⟨vr_3, τ, rfl, X0, hF, hP⟩ := hI
 try dsimp only at h
 obtain rfl := some_inj h
 have hn5 : (List.map (·.1) ([(j0, (AObj.box 155 [(.sl (List.map lex_Token.cl vr_3.l)), (.v (.int .i64 vr_3.end_)), (.v (.int .i64 vr_3.pos)), (.v (.int .i64 vr_3.at_)), (.v (.int .i64 vr_3.e)), (oz (List.map Node.cl vr_3.p.nodes)), (oz (List.map Input.cl vr_3.p.inputs)), (oz (List.map Flow.cl vr_3.p.flows)), (oz (List.map Output.cl vr_3.p.outputs))]))] : List (Nat × AObj))).Nodup := (List.nodup_cons.2 ⟨(fun h => by simp at h), List.nodup_nil⟩)
 have he6 := Fr.eq (l := [(j0, (AObj.box 155 [(.sl (List.map lex_Token.cl vr_3.l)), (.v (.int .i64 vr_3.end_)), (.v (.int .i64 vr_3.pos)), (.v (.int .i64 vr_3.at_)), (.v (.int .i64 vr_3.e)), (oz (List.map Node.cl vr_3.p.nodes)), (oz (List.map Input.cl vr_3.p.inputs)), (oz (List.map Flow.cl vr_3.p.flows)), (oz (List.map Output.cl vr_3.p.outputs))]))]) hF hn5 (List.forall_mem_cons.2 ⟨⟨jl0, (Gx.back X0 hP (hF.lt jl0))⟩, (fun x hx => absurd hx (by simp))⟩)
 exact w_end (fun h => absurd rfl h) (xr (rs := #[]) trivial) ⟨[(j0, (AObj.box 155 [(.sl (List.map lex_Token.cl vr_3.l)), (.v (.int .i64 vr_3.end_)), (.v (.int .i64 vr_3.pos)), (.v (.int .i64 vr_3.at_)), (.v (.int .i64 vr_3.e)), (oz (List.map Node.cl vr_3.p.nodes)), (oz (List.map Input.cl vr_3.p.inputs)), (oz (List.map Flow.cl vr_3.p.flows)), (oz (List.map Output.cl vr_3.p.outputs))]))], hn5, (List.forall_mem_cons.2 ⟨⟨jl0, (ClO.bx (ClL.cons (Cn.cl (Cn.rows lex_Token.cn _) _) (ClL.cons (Cn.cl (.v _) _) (ClL.cons (Cn.cl (.v _) _) (ClL.cons (Cn.cl (.v _) _) (ClL.cons (Cn.cl (.v _) _) (ClL.cons (Cn.cl (Cn.oz (Cn.rows Node.cn _)) _) (ClL.cons (Cn.cl (Cn.oz (Cn.rows Input.cn _)) _) (ClL.cons (Cn.cl (Cn.oz (Cn.rows Flow.cn _)) _) (ClL.cons (Cn.cl (Cn.oz (Cn.rows Output.cn _)) _) ClL.nil))))))))))⟩, (fun x hx => absurd hx (by simp))⟩), he6 ▸ hP, (.tu []), (.refl _), (.tu CnL.nil), hK⟩
noncomputable def B_syntax_reader_take (f_syntax_reader_now : syntax_reader → Option lex_Token) (a0 : syntax_reader) : Option (lex_Token × syntax_reader) :=
 (f_syntax_reader_now a0).bind fun y1 =>
 some (y1, (syntax_reader.mk a0.l a0.end_ (IntKind.i64.wrap (a0.pos + (1 : Int))) a0.at_ a0.e a0.p))
abbrev syntax_reader_take_A0 (a0 : syntax_reader) : List PV := [(.sl (List.map lex_Token.cl a0.l)), (.v (.int .i64 a0.end_)), (.v (.int .i64 (IntKind.i64.wrap (a0.pos + (1 : Int))))), (.v (.int .i64 a0.at_)), (.v (.int .i64 a0.e)), (oz (List.map Node.cl a0.p.nodes)), (oz (List.map Input.cl a0.p.inputs)), (oz (List.map Flow.cl a0.p.flows)), (oz (List.map Output.cl a0.p.outputs))]
theorem W_syntax_reader_take (f_syntax_reader_now : syntax_reader → Option lex_Token) (S_syntax_reader_now : Sat_syntax_reader_now f_syntax_reader_now) : Sat_syntax_reader_take (B_syntax_reader_take f_syntax_reader_now) := by
 intro a0 r h σ K j0 H0 hK
 refine w_fq (Q := fun r s => ∃ l : List (Nat × AObj), (l.map (·.1)).Nodup ∧ (∀ x ∈ l, x.1 < σ.length ∧ ClO σ.length x.2) ∧ Pq σ l K r s) Try.func127 rfl rfl (by kernel_rfl) (fun _ _ h => h) ?_
 unfold B_syntax_reader_take at h
 have hP := Pre.refl σ
 have jl0 := H0.lt
 have hF := Fr.refl σ [j0]
 have E0 : argE [(.pt j0 0)] 0 = (.pt j0 0) := rfl
 have TT := cj10 Expr.rlen T_153 T_155 T_2 T_27 T_3 T_30 T_81 T_85 T_9
 refine w_sa (fun e s => ∃ i2 : Nat, ∃ τ : Store, Gx s j0 (AObj.box 155 [(.sl (List.map lex_Token.cl a0.l)), (.v (.int .i64 a0.end_)), (.v (.int .i64 a0.pos)), (.v (.int .i64 a0.at_)), (.v (.int .i64 a0.e)), (oz (List.map Node.cl a0.p.nodes)), (oz (List.map Input.cl a0.p.inputs)), (oz (List.map Flow.cl a0.p.flows)), (oz (List.map Output.cl a0.p.outputs))]) ∧ Bx σ s i2 85 [(.v (.int .i64 (0 : Int))), (.v (.string (⟨#[]⟩ : ByteArray))), (.v (.int .i64 (0 : Int))), (.v (.int .i64 (0 : Int)))] ∧ e 0 = (.pt j0 0) ∧ e 2 = (.pt i2 0) ∧ j0 ≠ i2 ∧ Fr σ τ [j0] ∧ Pre τ s) ?_ fun e s hI => ?_
 ·refine w_x (cj5 E0 H0.get H0.any H0.any2 TT) (k := ?_)
  have q1 := cj5 E0 H0.get H0.any H0.any2 TT
  exact cw_n ⟨_, WkE.refl _, σ.length, σ, (H0.app [some (AObj.box 85 [(.v (.int .i64 (0 : Int))), (.v (.string (⟨#[]⟩ : ByteArray))), (.v (.int .i64 (0 : Int))), (.v (.int .i64 (0 : Int)))])]), (Bx.newf hF hP 85 [(.v (.int .i64 (0 : Int))), (.v (.string (⟨#[]⟩ : ByteArray))), (.v (.int .i64 (0 : Int))), (.v (.int .i64 (0 : Int)))]), (xv q1), (xv q1), (Nat.ne_of_lt H0.lt), hF, (hP.app _)⟩
 obtain ⟨i2, τ, X0, X2, E0, E2, N0__2, hF, hP⟩ := hI
 obtain ⟨y1, h2, h⟩ := bnd_some h
 refine w_sa (fun e s => ∃ i3 : Nat, ∃ τ : Store, Gx s j0 (AObj.box 155 [(.sl (List.map lex_Token.cl a0.l)), (.v (.int .i64 a0.end_)), (.v (.int .i64 a0.pos)), (.v (.int .i64 a0.at_)), (.v (.int .i64 a0.e)), (oz (List.map Node.cl a0.p.nodes)), (oz (List.map Input.cl a0.p.inputs)), (oz (List.map Flow.cl a0.p.flows)), (oz (List.map Output.cl a0.p.outputs))]) ∧ Bx σ s i2 85 [(.v (.int .i64 (0 : Int))), (.v (.string (⟨#[]⟩ : ByteArray))), (.v (.int .i64 (0 : Int))), (.v (.int .i64 (0 : Int)))] ∧ Bx σ s i3 85 [(.v (.int .i64 y1.kind)), (.v (.string y1.text)), (.v (.int .i64 y1.n)), (.v (.int .i64 y1.at_))] ∧ e 0 = (.pt j0 0) ∧ e 2 = (.pt i2 0) ∧ e 3 = (.pt i3 0) ∧ j0 ≠ i2 ∧ j0 ≠ i3 ∧ i2 ≠ i3 ∧ Fr σ τ [j0] ∧ Pre τ s) ?_ fun e s hI => ?_
 ·refine w_x (cj9 E0 E2 X0.get X0.any X0.any2 X2.get X2.any X2.any2 TT) (k := ?_)
  refine EC.wka (.cons (.refl _) .nil) (S_syntax_reader_now _ _ h2 _ _ _ X0 ?_)
  refine w_y (cj9 E0 E2 X0.get X0.any X0.any2 X2.get X2.any X2.any2 TT) (k := ?_)
  have q2 := cj9 E0 E2 X0.get X0.any X0.any2 X2.get X2.any X2.any2 TT
  exact cw_n ⟨_, WkE.refl _, s.length, τ, (X0.app [some (AObj.box 85 [(.v (.int .i64 y1.kind)), (.v (.string y1.text)), (.v (.int .i64 y1.n)), (.v (.int .i64 y1.at_))])]), (X2.app [some (AObj.box 85 [(.v (.int .i64 y1.kind)), (.v (.string y1.text)), (.v (.int .i64 y1.n)), (.v (.int .i64 y1.at_))])]), (Bx.newf hF hP 85 [(.v (.int .i64 y1.kind)), (.v (.string y1.text)), (.v (.int .i64 y1.n)), (.v (.int .i64 y1.at_))]), (xv q2), (xv q2), (xv q2), N0__2, (Nat.ne_of_lt X0.lt), (Nat.ne_of_lt X2.lt), hF, (hP.app _)⟩
 obtain ⟨i3, τ, X0, X2, X3, E0, E2, E3, N0__2, N0__3, N2__3, hF, hP⟩ := hI
 refine w_sa (fun e s => ∃ τ : Store, Gx s j0 (AObj.box 155 (syntax_reader_take_A0 a0)) ∧ Bx σ s i2 85 [(.v (.int .i64 (0 : Int))), (.v (.string (⟨#[]⟩ : ByteArray))), (.v (.int .i64 (0 : Int))), (.v (.int .i64 (0 : Int)))] ∧ Bx σ s i3 85 [(.v (.int .i64 y1.kind)), (.v (.string y1.text)), (.v (.int .i64 y1.n)), (.v (.int .i64 y1.at_))] ∧ e 2 = (.pt i2 0) ∧ e 3 = (.pt i3 0) ∧ j0 ≠ i2 ∧ j0 ≠ i3 ∧ i2 ≠ i3 ∧ Fr σ τ [j0] ∧ Pre τ s) ?_ fun e s hI => ?_
 ·refine w_x (cj10 E0 E2 E3 X0.get X2.get X3.get (Gx.same X0 (AObj.box 155 (syntax_reader_take_A0 a0))).get (X2.ne N0__2 (some (AObj.box 155 (syntax_reader_take_A0 a0)))).get (X3.ne N0__3 (some (AObj.box 155 (syntax_reader_take_A0 a0)))).get TT) (k := ?_)
  have q3 := Gx.same X0 (AObj.box 155 (syntax_reader_take_A0 a0))
  have q4 := X2.ne N0__2 (some (AObj.box 155 (syntax_reader_take_A0 a0)))
  have q5 := X3.ne N0__3 (some (AObj.box 155 (syntax_reader_take_A0 a0)))
  have q6 := cj10 E0 E2 E3 X0.get X2.get X3.get q3.get q4.get q5.get TT
  exact cw_n ⟨_, WkE.refl _, (List.set τ j0 (some (AObj.box 155 (syntax_reader_take_A0 a0)))), q3, q4, q5, (xv q6), (xv q6), N0__2, N0__3, N2__3, (hF.set (by simp) (some (AObj.box 155 (syntax_reader_take_A0 a0)))), (hP.setp (hF.lt jl0) (some (AObj.box 155 (syntax_reader_take_A0 a0))))⟩
 obtain ⟨τ, X0, X2, X3, E2, E3, N0__2, N0__3, N2__3, hF, hP⟩ := hI
 refine w_sa (fun e s => ∃ τ : Store, Gx s j0 (AObj.box 155 (syntax_reader_take_A0 a0)) ∧ Bx σ s i2 85 [(.v (.int .i64 y1.kind)), (.v (.string y1.text)), (.v (.int .i64 y1.n)), (.v (.int .i64 y1.at_))] ∧ e 2 = (.pt i2 0) ∧ j0 ≠ i2 ∧ Fr σ τ [j0] ∧ Pre τ s) ?_ fun e s hI => ?_
 ·refine w_x (cj9 E2 E3 X0.get X2.get X3.get (X0.ne (Ne.symm N0__2) (some (AObj.box 85 [(.v (.int .i64 y1.kind)), (.v (.string y1.text)), (.v (.int .i64 y1.n)), (.v (.int .i64 y1.at_))]))).get (X2.same 85 [(.v (.int .i64 y1.kind)), (.v (.string y1.text)), (.v (.int .i64 y1.n)), (.v (.int .i64 y1.at_))]).get (X3.ne N2__3 (some (AObj.box 85 [(.v (.int .i64 y1.kind)), (.v (.string y1.text)), (.v (.int .i64 y1.n)), (.v (.int .i64 y1.at_))]))).get TT) (k := ?_)
  have q7 := X2.same 85 [(.v (.int .i64 y1.kind)), (.v (.string y1.text)), (.v (.int .i64 y1.n)), (.v (.int .i64 y1.at_))]
  have q8 := X0.ne (Ne.symm N0__2) (some (AObj.box 85 [(.v (.int .i64 y1.kind)), (.v (.string y1.text)), (.v (.int .i64 y1.n)), (.v (.int .i64 y1.at_))]))
  exact cw_n ⟨_, WkE.refl _, τ, q8, q7, (xv (cj9 E2 E3 X0.get X2.get X3.get q8.get q7.get (X3.ne N2__3 (some (AObj.box 85 [(.v (.int .i64 y1.kind)), (.v (.string y1.text)), (.v (.int .i64 y1.n)), (.v (.int .i64 y1.at_))]))).get TT)), N0__2, hF, (hP.set (hF.ge X2.le) (some (AObj.box 85 [(.v (.int .i64 y1.kind)), (.v (.string y1.text)), (.v (.int .i64 y1.n)), (.v (.int .i64 y1.at_))])))⟩
 obtain ⟨τ, X0, X2, E2, N0__2, hF, hP⟩ := hI
 refine w_ret ?_
 obtain rfl := some_inj h
 have hn3 : (List.map (·.1) ([(j0, (AObj.box 155 (syntax_reader_take_A0 a0)))] : List (Nat × AObj))).Nodup := (List.nodup_cons.2 ⟨(fun h => by simp at h), List.nodup_nil⟩)
 have he4 := Fr.eq (l := [(j0, (AObj.box 155 (syntax_reader_take_A0 a0)))]) hF hn3 (List.forall_mem_cons.2 ⟨⟨jl0, (Gx.back X0 hP (hF.lt jl0))⟩, (fun x hx => absurd hx (by simp))⟩)
 exact w_end (fun _ => rfl) (xr (rs := #[.cell 2 85]) (cj3 X2.get E2 TT)) ⟨[(j0, (AObj.box 155 (syntax_reader_take_A0 a0)))], hn3, (List.forall_mem_cons.2 ⟨⟨jl0, (ClO.bx (ClL.cons (Cn.cl (Cn.rows lex_Token.cn _) _) (ClL.cons (Cn.cl (.v _) _) (ClL.cons (Cn.cl (.v _) _) (ClL.cons (Cn.cl (.v _) _) (ClL.cons (Cn.cl (.v _) _) (ClL.cons (Cn.cl (Cn.oz (Cn.rows Node.cn _)) _) (ClL.cons (Cn.cl (Cn.oz (Cn.rows Input.cn _)) _) (ClL.cons (Cn.cl (Cn.oz (Cn.rows Flow.cn _)) _) (ClL.cons (Cn.cl (Cn.oz (Cn.rows Output.cn _)) _) ClL.nil))))))))))⟩, (fun x hx => absurd hx (by simp))⟩), he4 ▸ hP, (.ag [(.v (.int .i64 y1.kind)), (.v (.string y1.text)), (.v (.int .i64 y1.n)), (.v (.int .i64 y1.at_))]), (.refl _), (.ag (CnL.cons (.v _) (CnL.cons (.v _) (CnL.cons (.v _) (CnL.cons (.v _) CnL.nil))))), hK⟩
noncomputable def B_syntax_reader_is (f_syntax_reader_now : syntax_reader → Option lex_Token) (a0 : syntax_reader) (a1 : ByteArray) : Option Bool :=
 (f_syntax_reader_now a0).bind fun y1 =>
 some (((decide (a0.e = (0 : Int))) && (decide (y1.text = a1))) && (!decide (y1.kind = (0 : Int))))
theorem W_syntax_reader_is (f_syntax_reader_now : syntax_reader → Option lex_Token) (S_syntax_reader_now : Sat_syntax_reader_now f_syntax_reader_now) : Sat_syntax_reader_is (B_syntax_reader_is f_syntax_reader_now) := by
 intro a0 a1 r h σ K j0 H0 hK
 refine w_fp Try.func114 rfl rfl (by kernel_rfl) ?_
 unfold B_syntax_reader_is at h
 have hP := Pre.refl σ
 have jl0 := H0.lt
 have E0 : argE [(.pt j0 0), (.v (.string a1))] 0 = (.pt j0 0) := rfl
 have E1 : argE [(.pt j0 0), (.v (.string a1))] 1 = (.v (.string a1)) := rfl
 have TT := cj10 Expr.rlen T_153 T_155 T_2 T_27 T_3 T_30 T_81 T_85 T_9
 refine w_sa (fun e s => Gx s j0 (AObj.box 155 [(.sl (List.map lex_Token.cl a0.l)), (.v (.int .i64 a0.end_)), (.v (.int .i64 a0.pos)), (.v (.int .i64 a0.at_)), (.v (.int .i64 a0.e)), (oz (List.map Node.cl a0.p.nodes)), (oz (List.map Input.cl a0.p.inputs)), (oz (List.map Flow.cl a0.p.flows)), (oz (List.map Output.cl a0.p.outputs))]) ∧ e 0 = (.pt j0 0) ∧ e 1 = (.v (.string a1)) ∧ Pre σ s) ?_ fun e s hI => ?_
 ·refine w_x (cj4 E0 E1 H0.get TT) (k := ?_)
  exact cw_n ⟨_, WkE.refl _, H0, (xv (cj4 E0 E1 H0.get TT)), (xv (cj4 E0 E1 H0.get TT)), hP⟩
 obtain ⟨X0, E0, E1, hP⟩ := hI
 obtain ⟨y1, h2, h⟩ := bnd_some h
 refine w_sa (fun e s => ∃ i5 : Nat, Gx s j0 (AObj.box 155 [(.sl (List.map lex_Token.cl a0.l)), (.v (.int .i64 a0.end_)), (.v (.int .i64 a0.pos)), (.v (.int .i64 a0.at_)), (.v (.int .i64 a0.e)), (oz (List.map Node.cl a0.p.nodes)), (oz (List.map Input.cl a0.p.inputs)), (oz (List.map Flow.cl a0.p.flows)), (oz (List.map Output.cl a0.p.outputs))]) ∧ Bx σ s i5 85 [(.v (.int .i64 y1.kind)), (.v (.string y1.text)), (.v (.int .i64 y1.n)), (.v (.int .i64 y1.at_))] ∧ e 0 = (.pt j0 0) ∧ e 1 = (.v (.string a1)) ∧ e 5 = (.pt i5 0) ∧ Pre σ s) ?_ fun e s hI => ?_
 ·refine w_x (cj6 E0 E1 X0.get X0.any X0.any2 TT) (k := ?_)
  refine EC.wka (.cons (.refl _) .nil) (S_syntax_reader_now _ _ h2 _ _ _ X0 ?_)
  refine w_y (cj6 E0 E1 X0.get X0.any X0.any2 TT) (k := ?_)
  have q1 := cj6 E0 E1 X0.get X0.any X0.any2 TT
  exact cw_n ⟨_, WkE.refl _, s.length, (X0.app [some (AObj.box 85 [(.v (.int .i64 y1.kind)), (.v (.string y1.text)), (.v (.int .i64 y1.n)), (.v (.int .i64 y1.at_))])]), (Bx.new hP 85 [(.v (.int .i64 y1.kind)), (.v (.string y1.text)), (.v (.int .i64 y1.n)), (.v (.int .i64 y1.at_))]), (xv q1), (xv q1), (xv q1), (hP.app _)⟩
 obtain ⟨i5, X0, X5, E0, E1, E5, hP⟩ := hI
 refine w_sa (fun e s => e 4 = (.v (.bool (((decide (a0.e = (0 : Int))) && (decide (y1.text = a1))) && (!decide (y1.kind = (0 : Int)))))) ∧ Pre σ s) ?_ fun e s hI => ?_
 ·cases hb3 : (decide (a0.e = (0 : Int)))
  ·refine w_x (cj7 E0 E1 E5 X0.get X5.get hb3 TT) (k := ?_)
   exact cw_n ⟨_, WkE.refl _, (xv (cj7 E0 E1 E5 X0.get X5.get hb3 TT)), hP⟩
  ·cases hb4 : (decide (y1.text = a1))
   ·refine w_x (cj8 E0 E1 E5 X0.get X5.get hb3 hb4 TT) (k := ?_)
    exact cw_n ⟨_, WkE.refl _, (xv (cj8 E0 E1 E5 X0.get X5.get hb3 hb4 TT)), hP⟩
   ·refine w_x (cj8 E0 E1 E5 X0.get X5.get hb3 hb4 TT) (k := ?_)
    exact cw_n ⟨_, WkE.refl _, (xv (cj8 E0 E1 E5 X0.get X5.get hb3 hb4 TT)), hP⟩
 obtain ⟨E4, hP⟩ := hI
 refine w_ret ?_
 obtain rfl := some_inj h
 exact w_fin (fun _ => rfl) (xr (rs := #[.tmp 4]) E4) hP (r' := (.v (.bool (((decide (a0.e = (0 : Int))) && (decide (y1.text = a1))) && (!decide (y1.kind = (0 : Int))))))) (.refl _) (.v _) hK
noncomputable def B_syntax_reader_can (f_syntax_reader_is : syntax_reader → ByteArray → Option Bool) (a0 : syntax_reader) (a1 : ByteArray) : Option (Bool × syntax_reader) :=
 (f_syntax_reader_is a0 a1).bind fun y1 =>
 (if y1 then
  some (syntax_reader.mk a0.l a0.end_ (IntKind.i64.wrap (a0.pos + (1 : Int))) a0.at_ a0.e a0.p)
 else
  some a0 : Option syntax_reader).bind fun vr_5 =>
 some (y1, vr_5)
abbrev syntax_reader_can_A0 (a0 : syntax_reader) : List PV := [(.sl (List.map lex_Token.cl a0.l)), (.v (.int .i64 a0.end_)), (.v (.int .i64 (IntKind.i64.wrap (a0.pos + (1 : Int))))), (.v (.int .i64 a0.at_)), (.v (.int .i64 a0.e)), (oz (List.map Node.cl a0.p.nodes)), (oz (List.map Input.cl a0.p.inputs)), (oz (List.map Flow.cl a0.p.flows)), (oz (List.map Output.cl a0.p.outputs))]
theorem W_syntax_reader_can (f_syntax_reader_is : syntax_reader → ByteArray → Option Bool) (S_syntax_reader_is : Sat_syntax_reader_is f_syntax_reader_is) : Sat_syntax_reader_can (B_syntax_reader_can f_syntax_reader_is) := by
 intro a0 a1 r h σ K j0 H0 hK
 refine w_fq (Q := fun r s => ∃ l : List (Nat × AObj), (l.map (·.1)).Nodup ∧ (∀ x ∈ l, x.1 < σ.length ∧ ClO σ.length x.2) ∧ Pq σ l K r s) Try.func81 rfl rfl (by kernel_rfl) (fun _ _ h => h) ?_
 unfold B_syntax_reader_can at h
 have hP := Pre.refl σ
 have jl0 := H0.lt
 have hF := Fr.refl σ [j0]
 have E0 : argE [(.pt j0 0), (.v (.string a1))] 0 = (.pt j0 0) := rfl
 have E1 : argE [(.pt j0 0), (.v (.string a1))] 1 = (.v (.string a1)) := rfl
 have TT := cj8 Expr.rlen T_153 T_155 T_27 T_3 T_30 T_81 T_9
 refine w_sa (fun e s => ∃ τ : Store, Gx s j0 (AObj.box 155 [(.sl (List.map lex_Token.cl a0.l)), (.v (.int .i64 a0.end_)), (.v (.int .i64 a0.pos)), (.v (.int .i64 a0.at_)), (.v (.int .i64 a0.e)), (oz (List.map Node.cl a0.p.nodes)), (oz (List.map Input.cl a0.p.inputs)), (oz (List.map Flow.cl a0.p.flows)), (oz (List.map Output.cl a0.p.outputs))]) ∧ e 0 = (.pt j0 0) ∧ e 1 = (.v (.string a1)) ∧ Fr σ τ [j0] ∧ Pre τ s) ?_ fun e s hI => ?_
 ·refine w_x (cj4 E0 E1 H0.get TT) (k := ?_)
  exact cw_n ⟨_, WkE.refl _, σ, H0, (xv (cj4 E0 E1 H0.get TT)), (xv (cj4 E0 E1 H0.get TT)), hF, hP⟩
 obtain ⟨τ, X0, E0, E1, hF, hP⟩ := hI
 obtain ⟨y1, h2, h⟩ := bnd_some h
 refine w_sa (fun e s => ∃ τ : Store, Gx s j0 (AObj.box 155 [(.sl (List.map lex_Token.cl a0.l)), (.v (.int .i64 a0.end_)), (.v (.int .i64 a0.pos)), (.v (.int .i64 a0.at_)), (.v (.int .i64 a0.e)), (oz (List.map Node.cl a0.p.nodes)), (oz (List.map Input.cl a0.p.inputs)), (oz (List.map Flow.cl a0.p.flows)), (oz (List.map Output.cl a0.p.outputs))]) ∧ e 0 = (.pt j0 0) ∧ e 5 = (.v (.bool y1)) ∧ Fr σ τ [j0] ∧ Pre τ s) ?_ fun e s hI => ?_
 ·refine w_x (cj4 E0 E1 X0.get TT) (k := ?_)
  refine EC.wka (.cons (.refl _) (.cons (.refl _) .nil)) (S_syntax_reader_is _ _ _ h2 _ _ _ X0 ?_)
  refine w_y (cj4 E0 E1 X0.get TT) (k := ?_)
  exact cw_n ⟨_, WkE.refl _, τ, X0, (xv (cj4 E0 E1 X0.get TT)), (xv (cj4 E0 E1 X0.get TT)), hF, hP⟩
 obtain ⟨τ, X0, E0, E5, hF, hP⟩ := hI
 refine w_assoc ?_
 refine w_sa (fun e s => ∃ τ : Store, Gx s j0 (AObj.box 155 [(.sl (List.map lex_Token.cl a0.l)), (.v (.int .i64 a0.end_)), (.v (.int .i64 a0.pos)), (.v (.int .i64 a0.at_)), (.v (.int .i64 a0.e)), (oz (List.map Node.cl a0.p.nodes)), (oz (List.map Input.cl a0.p.inputs)), (oz (List.map Flow.cl a0.p.flows)), (oz (List.map Output.cl a0.p.outputs))]) ∧ e 0 = (.pt j0 0) ∧ e 5 = (.v (.bool y1)) ∧ e 9 = (.v (.bool y1)) ∧ Fr σ τ [j0] ∧ Pre τ s) ?_ fun e s hI => ?_
 ·refine w_x (cj4 E0 E5 X0.get TT) (k := ?_)
  have q1 := cj4 E0 E5 X0.get TT
  exact cw_n ⟨_, WkE.refl _, τ, X0, (xv q1), (xv q1), (xv q1), hF, hP⟩
 obtain ⟨τ, X0, E0, E5, E9, hF, hP⟩ := hI
 obtain ⟨x3, h4, h⟩ := bnd_some h
 refine w_sa (fun e s => ∃ vr_5 : syntax_reader, ∃ τ : Store, vr_5 = x3 ∧ Gx s j0 (AObj.box 155 [(.sl (List.map lex_Token.cl vr_5.l)), (.v (.int .i64 vr_5.end_)), (.v (.int .i64 vr_5.pos)), (.v (.int .i64 vr_5.at_)), (.v (.int .i64 vr_5.e)), (oz (List.map Node.cl vr_5.p.nodes)), (oz (List.map Input.cl vr_5.p.inputs)), (oz (List.map Flow.cl vr_5.p.flows)), (oz (List.map Output.cl vr_5.p.outputs))]) ∧ e 5 = (.v (.bool y1)) ∧ Fr σ τ [j0] ∧ Pre τ s) ?_ fun e s hI => ?_
 ·rcases ite_some h4 with ⟨hb6, h4⟩ | ⟨hb6, h4⟩
  ·refine xt (cj4 E0 E5 E9 hb6) ?_
   refine w_x (cj6 E0 E5 E9 X0.get (Gx.same X0 (AObj.box 155 (syntax_reader_can_A0 a0))).get TT) (k := ?_)
   obtain rfl := some_inj h4
   have q2 := Gx.same X0 (AObj.box 155 (syntax_reader_can_A0 a0))
   exact cw_n ⟨_, WkE.refl _, _, (List.set τ j0 (some (AObj.box 155 (syntax_reader_can_A0 a0)))), rfl, q2, (xv (cj6 E0 E5 E9 X0.get q2.get TT)), (hF.set (by simp) (some (AObj.box 155 (syntax_reader_can_A0 a0)))), (hP.setp (hF.lt jl0) (some (AObj.box 155 (syntax_reader_can_A0 a0))))⟩
  ·refine xf (cj4 E0 E5 E9 hb6) ?_
   refine w_skip ?_
   obtain rfl := some_inj h4
   exact cw_n ⟨_, WkE.refl _, _, τ, rfl, X0, (xv (cj3 E0 E5 E9)), hF, hP⟩
 obtain ⟨vr_5, τ, rfl, X0, E5, hF, hP⟩ := hI
 try dsimp only at h
 refine w_sa (fun e s => ∃ τ : Store, Gx s j0 (AObj.box 155 [(.sl (List.map lex_Token.cl vr_5.l)), (.v (.int .i64 vr_5.end_)), (.v (.int .i64 vr_5.pos)), (.v (.int .i64 vr_5.at_)), (.v (.int .i64 vr_5.e)), (oz (List.map Node.cl vr_5.p.nodes)), (oz (List.map Input.cl vr_5.p.inputs)), (oz (List.map Flow.cl vr_5.p.flows)), (oz (List.map Output.cl vr_5.p.outputs))]) ∧ e 4 = (.v (.bool y1)) ∧ Fr σ τ [j0] ∧ Pre τ s) ?_ fun e s hI => ?_
 ·refine w_x (cj3 E5 X0.get TT) (k := ?_)
  exact cw_n ⟨_, WkE.refl _, τ, X0, (xv (cj3 E5 X0.get TT)), hF, hP⟩
 obtain ⟨τ, X0, E4, hF, hP⟩ := hI
 refine w_ret ?_
 obtain rfl := some_inj h
 have hn7 : (List.map (·.1) ([(j0, (AObj.box 155 [(.sl (List.map lex_Token.cl vr_5.l)), (.v (.int .i64 vr_5.end_)), (.v (.int .i64 vr_5.pos)), (.v (.int .i64 vr_5.at_)), (.v (.int .i64 vr_5.e)), (oz (List.map Node.cl vr_5.p.nodes)), (oz (List.map Input.cl vr_5.p.inputs)), (oz (List.map Flow.cl vr_5.p.flows)), (oz (List.map Output.cl vr_5.p.outputs))]))] : List (Nat × AObj))).Nodup := (List.nodup_cons.2 ⟨(fun h => by simp at h), List.nodup_nil⟩)
 have he8 := Fr.eq (l := [(j0, (AObj.box 155 [(.sl (List.map lex_Token.cl vr_5.l)), (.v (.int .i64 vr_5.end_)), (.v (.int .i64 vr_5.pos)), (.v (.int .i64 vr_5.at_)), (.v (.int .i64 vr_5.e)), (oz (List.map Node.cl vr_5.p.nodes)), (oz (List.map Input.cl vr_5.p.inputs)), (oz (List.map Flow.cl vr_5.p.flows)), (oz (List.map Output.cl vr_5.p.outputs))]))]) hF hn7 (List.forall_mem_cons.2 ⟨⟨jl0, (Gx.back X0 hP (hF.lt jl0))⟩, (fun x hx => absurd hx (by simp))⟩)
 exact w_end (fun _ => rfl) (xr (rs := #[.tmp 4]) E4) ⟨[(j0, (AObj.box 155 [(.sl (List.map lex_Token.cl vr_5.l)), (.v (.int .i64 vr_5.end_)), (.v (.int .i64 vr_5.pos)), (.v (.int .i64 vr_5.at_)), (.v (.int .i64 vr_5.e)), (oz (List.map Node.cl vr_5.p.nodes)), (oz (List.map Input.cl vr_5.p.inputs)), (oz (List.map Flow.cl vr_5.p.flows)), (oz (List.map Output.cl vr_5.p.outputs))]))], hn7, (List.forall_mem_cons.2 ⟨⟨jl0, (ClO.bx (ClL.cons (Cn.cl (Cn.rows lex_Token.cn _) _) (ClL.cons (Cn.cl (.v _) _) (ClL.cons (Cn.cl (.v _) _) (ClL.cons (Cn.cl (.v _) _) (ClL.cons (Cn.cl (.v _) _) (ClL.cons (Cn.cl (Cn.oz (Cn.rows Node.cn _)) _) (ClL.cons (Cn.cl (Cn.oz (Cn.rows Input.cn _)) _) (ClL.cons (Cn.cl (Cn.oz (Cn.rows Flow.cn _)) _) (ClL.cons (Cn.cl (Cn.oz (Cn.rows Output.cn _)) _) ClL.nil))))))))))⟩, (fun x hx => absurd hx (by simp))⟩), he8 ▸ hP, (.v (.bool y1)), (.refl _), (.v _), hK⟩
def lex_Words_K0 : (List ByteArray) := [(⟨#[110, 111, 100, 101]⟩ : ByteArray), (⟨#[98, 117, 100, 103, 101, 116]⟩ : ByteArray), (⟨#[105, 110, 112, 117, 116]⟩ : ByteArray), (⟨#[112, 101, 114, 105, 111, 100]⟩ : ByteArray), (⟨#[112, 104, 97, 115, 101]⟩ : ByteArray), (⟨#[102, 108, 111, 119]⟩ : ByteArray), (⟨#[102, 98, 121]⟩ : ByteArray), (⟨#[116, 97, 105, 108]⟩ : ByteArray), (⟨#[111, 117, 116, 112, 117, 116]⟩ : ByteArray), (⟨#[100, 101, 97, 100, 108, 105, 110, 101]⟩ : ByteArray)]
noncomputable def B_lex_Words : Option (List ByteArray) :=
 some lex_Words_K0
theorem W_lex_Words : Sat_lex_Words (B_lex_Words) := by
 intro r h σ K hK
 refine w_fp Try.func122 rfl rfl (by kernel_rfl) ?_
 unfold B_lex_Words at h
 have hP := Pre.refl σ
 have TT := cj3 Expr.rlen T_9 T_97
 refine w_sa (fun e s => Pre σ s) ?_ fun e s hI => ?_
 ·refine w_x Expr.rlen (k := ?_)
  exact cw_n ⟨_, WkE.refl _, hP⟩
 have hP := hI
 refine w_sa (fun e s => e 0 = (.sl (List.map C_s lex_Words_K0)) ∧ Pre σ s) ?_ fun e s hI => ?_
 ·refine w_x TT (k := ?_)
  exact cw_n ⟨_, WkE.upd (WkE.refl _) (t := 0) (p := (.sl [[(.v (.string (⟨#[110, 111, 100, 101]⟩ : ByteArray)))], [(.v (.string (⟨#[98, 117, 100, 103, 101, 116]⟩ : ByteArray)))], [(.v (.string (⟨#[105, 110, 112, 117, 116]⟩ : ByteArray)))], [(.v (.string (⟨#[112, 101, 114, 105, 111, 100]⟩ : ByteArray)))], [(.v (.string (⟨#[112, 104, 97, 115, 101]⟩ : ByteArray)))], [(.v (.string (⟨#[102, 108, 111, 119]⟩ : ByteArray)))], [(.v (.string (⟨#[102, 98, 121]⟩ : ByteArray)))], [(.v (.string (⟨#[116, 97, 105, 108]⟩ : ByteArray)))], [(.v (.string (⟨#[111, 117, 116, 112, 117, 116]⟩ : ByteArray)))], [(.v (.string (⟨#[100, 101, 97, 100, 108, 105, 110, 101]⟩ : ByteArray)))]])) (q := (.sl (List.map C_s lex_Words_K0))) (xv TT) (Wk.of_eq rfl), (xv TT), hP⟩
 obtain ⟨E0, hP⟩ := hI
 refine w_ret ?_
 obtain rfl := some_inj h
 exact w_fin (fun _ => rfl) (xr (rs := #[.tmp 0]) E0) hP (r' := (.sl (List.map C_s lex_Words_K0))) (.refl _) (Cn.rows (fun _ => CnL.cons (.v _) CnL.nil) _) hK
noncomputable def slices_Index_string_L0 (a0 : (List ByteArray)) (a1 : ByteArray) : Int → Option (Int ⊕ (Int ⊕ Unit))
 | v8_3 =>
  if (decide (v8_3 < ((List.length a0 : Nat) : Int))) then
   ((getI a0 v8_3).bind fun y9 =>
   if (decide (a1 = y9)) then
    some (.inl v8_3)
   else
    some (.inr ()) : Option (Int ⊕ Unit)).bind fun x => match x with
   | .inl r => some (.inr (.inl r))
   | .inr _ =>
    some (.inl (IntKind.i64.wrap (v8_3 + (1 : Int))))
  else
   some (.inr (.inr ()))
noncomputable def B_slices_Index_string (a0 : (List ByteArray)) (a1 : ByteArray) : Option Int :=
 (iterO (slices_Index_string_L0 a0 a1) (0 : Int) : Option (Int ⊕ Unit)).bind fun x => match x with
 | .inl r => some r
 | .inr _ =>
  some (-1 : Int)
theorem W_slices_Index_string : Sat_slices_Index_string (B_slices_Index_string) := by
 intro a0 a1 r h σ K hK
 refine w_fp Try.func133 rfl rfl (by kernel_rfl) ?_
 unfold B_slices_Index_string at h
 have hP := Pre.refl σ
 have E0 : argE [(.sl (List.map C_s a0)), (.v (.string a1))] 0 = (.sl (List.map C_s a0)) := rfl
 have E1 : argE [(.sl (List.map C_s a0)), (.v (.string a1))] 1 = (.v (.string a1)) := rfl
 have TT := cj4 Expr.rlen T_3 T_9 T_97
 refine w_sa (fun e s => e 0 = (.sl (List.map C_s a0)) ∧ e 1 = (.v (.string a1)) ∧ Pre σ s) ?_ fun e s hI => ?_
 ·refine w_x (cj3 E0 E1 TT) (k := ?_)
  exact cw_n ⟨_, WkE.refl _, (xv (cj3 E0 E1 TT)), (xv (cj3 E0 E1 TT)), hP⟩
 obtain ⟨E0, E1, hP⟩ := hI
 refine w_assoc ?_
 refine w_sa (fun e s => e 0 = (.sl (List.map C_s a0)) ∧ e 1 = (.v (.string a1)) ∧ e 7 = (.v (.int .i64 ((List.length a0 : Nat) : Int))) ∧ e 8 = (.v (.int .i64 (0 : Int))) ∧ Pre σ s) ?_ fun e s hI => ?_
 ·refine w_x (cj3 E0 E1 TT) (k := ?_)
  have q1 := cj3 E0 E1 TT
  exact cw_n ⟨_, WkE.refl _, (xv q1), (xv q1), (xv q1), (xv q1), hP⟩
 obtain ⟨E0, E1, E7, E8, hP⟩ := hI
 obtain ⟨x1, h2, h⟩ := bnd_some h
 refine w_sa (fun e s => .inr () = x1 ∧ Pre σ s) ?_ fun e s hI => ?_
 ·refine w_block ?_
  have q2 := cj4 E0 E1 E7 E8
  refine w_iter h2 (fun v e s => ∃ v8_3 : Int, v8_3 = v ∧ e 0 = (.sl (List.map C_s a0)) ∧ e 1 = (.v (.string a1)) ∧ e 7 = (.v (.int .i64 ((List.length a0 : Nat) : Int))) ∧ e 8 = (.v (.int .i64 v8_3)) ∧ Pre σ s) ⟨_, WkE.refl _, _, rfl, (xv q2), (xv q2), (xv q2), (xv q2), hP⟩ fun v x4 e s hf5 hI => ?_
  obtain ⟨v8_3, rfl, E0, E1, E7, E8, hP⟩ := hI
  unfold slices_Index_string_L0 at hf5
  try dsimp only at hf5
  refine w_sa (fun e s => e 0 = (.sl (List.map C_s a0)) ∧ e 1 = (.v (.string a1)) ∧ e 7 = (.v (.int .i64 ((List.length a0 : Nat) : Int))) ∧ e 8 = (.v (.int .i64 v8_3)) ∧ e 9 = (.v (.bool (decide (v8_3 < ((List.length a0 : Nat) : Int))))) ∧ Pre σ s) ?_ fun e s hI => ?_
  ·refine w_x (cj5 E0 E1 E7 E8 TT) (k := ?_)
   have q3 := cj5 E0 E1 E7 E8 TT
   exact cw_n ⟨_, WkE.refl _, (xv q3), (xv q3), (xv q3), (xv q3), (xv q3), hP⟩
  obtain ⟨E0, E1, E7, E8, E9, hP⟩ := hI
  refine w_seq ?_
  rcases ite_some hf5 with ⟨hb6, hf5⟩ | ⟨hb6, hf5⟩
  ·refine xt (cj6 E0 E1 E7 E8 E9 hb6) ?_
   refine w_skip ?_
   refine w_sq ?_
   obtain ⟨x7, h8, hf5⟩ := bnd_some hf5
   refine w_sa (fun e s => .inr () = x7 ∧ e 0 = (.sl (List.map C_s a0)) ∧ e 1 = (.v (.string a1)) ∧ e 7 = (.v (.int .i64 ((List.length a0 : Nat) : Int))) ∧ e 8 = (.v (.int .i64 v8_3)) ∧ Pre σ s) ?_ fun e s hI => ?_
   ·refine w_block ?_
    refine w_sa (fun e s => e 0 = (.sl (List.map C_s a0)) ∧ e 1 = (.v (.string a1)) ∧ e 5 = (.v (.int .i64 v8_3)) ∧ e 7 = (.v (.int .i64 ((List.length a0 : Nat) : Int))) ∧ e 8 = (.v (.int .i64 v8_3)) ∧ Pre σ s) ?_ fun e s hI => ?_
    ·refine w_x (cj6 E0 E1 E7 E8 E9 TT) (k := ?_)
     have q4 := cj6 E0 E1 E7 E8 E9 TT
     exact cw_n ⟨_, WkE.refl _, (xv q4), (xv q4), (xv q4), (xv q4), (xv q4), hP⟩
    obtain ⟨E0, E1, E5, E7, E8, hP⟩ := hI
    obtain ⟨y9, h10, h8⟩ := bnd_some h8
    refine w_sa (fun e s => e 0 = (.sl (List.map C_s a0)) ∧ e 1 = (.v (.string a1)) ∧ e 5 = (.v (.int .i64 v8_3)) ∧ e 7 = (.v (.int .i64 ((List.length a0 : Nat) : Int))) ∧ e 8 = (.v (.int .i64 v8_3)) ∧ e 16 = (.v (.bool (decide (a1 = y9)))) ∧ Pre σ s) ?_ fun e s hI => ?_
    ·have R11 : (List.map C_s a0)[(v8_3).toNat]? = some [(.v (.string y9))] := map_get (getI_some h10).2
     refine w_x (cj8 E0 E1 E5 E7 E8 R11 (getI_some h10).1 TT) (k := ?_)
     have q5 := cj8 E0 E1 E5 E7 E8 R11 (getI_some h10).1 TT
     exact cw_n ⟨_, WkE.refl _, (xv q5), (xv q5), (xv q5), (xv q5), (xv q5), (xv q5), hP⟩
    obtain ⟨E0, E1, E5, E7, E8, E16, hP⟩ := hI
    rcases ite_some h8 with ⟨hb12, h8⟩ | ⟨hb12, h8⟩
    ·refine xt (cj7 E0 E1 E5 E7 E8 E16 hb12) ?_
     refine w_sa (fun e s => e 4 = (.v (.int .i64 v8_3)) ∧ Pre σ s) ?_ fun e s hI => ?_
     ·refine w_x (cj7 E0 E1 E5 E7 E8 E16 TT) (k := ?_)
      exact cw_n ⟨_, WkE.refl _, (xv (cj7 E0 E1 E5 E7 E8 E16 TT)), hP⟩
     obtain ⟨E4, hP⟩ := hI
     refine w_ret ?_
     refine w_bkr ?_
     obtain rfl := some_inj h8
     refine cw_r ?_
     try dsimp only at hf5
     obtain rfl := some_inj hf5
     refine iq_r rfl fun hr13 => ?_
     obtain rfl := hr13
     refine w_bkr ?_
     refine cw_r ?_
     try dsimp only at h
     obtain rfl := some_inj h
     exact w_fin (fun _ => rfl) (xr (rs := #[.tmp 4]) E4) hP (r' := (.v (.int .i64 v8_3))) (.refl _) (.v _) hK
    ·refine xf (cj7 E0 E1 E5 E7 E8 E16 hb12) ?_
     refine w_skip ?_
     refine w_bk ?_
     obtain rfl := some_inj h8
     have q6 := cj6 E0 E1 E5 E7 E8 E16
     exact cw_n ⟨_, WkE.refl _, rfl, (xv q6), (xv q6), (xv q6), (xv q6), hP⟩
   obtain ⟨rfl, E0, E1, E7, E8, hP⟩ := hI
   try dsimp only at hf5
   refine w_x (cj5 E0 E1 E7 E8 TT) (k := ?_)
   obtain rfl := some_inj hf5
   have q7 := cj5 E0 E1 E7 E8 TT
   exact iq_n rfl ⟨_, WkE.refl _, _, rfl, (xv q7), (xv q7), (xv q7), (xv q7), hP⟩
  ·refine xf (cj6 E0 E1 E7 E8 E9 hb6) ?_
   refine w_exit ?_
   refine w_sqx ?_
   obtain rfl := some_inj hf5
   refine iq_x rfl fun hr14 => ?_
   obtain rfl := hr14
   refine w_bkx ?_
   exact cw_n ⟨_, WkE.refl _, rfl, hP⟩
 obtain ⟨rfl, hP⟩ := hI
 try dsimp only at h
 refine w_sa (fun e s => e 4 = (.v (.int .i64 (-1 : Int))) ∧ Pre σ s) ?_ fun e s hI => ?_
 ·refine w_x Expr.rlen (k := ?_)
  exact cw_n ⟨_, WkE.refl _, (xv Expr.rlen), hP⟩
 obtain ⟨E4, hP⟩ := hI
 refine w_ret ?_
 obtain rfl := some_inj h
 exact w_fin (fun _ => rfl) (xr (rs := #[.tmp 4]) E4) hP (r' := (.v (.int .i64 (-1 : Int)))) (.refl _) (.v _) hK
noncomputable def B_slices_Contains_string (f_slices_Index_string : (List ByteArray) → ByteArray → Option Int) (a0 : (List ByteArray)) (a1 : ByteArray) : Option Bool :=
 (f_slices_Index_string a0 a1).bind fun y1 =>
 some (decide ((0 : Int) ≤ y1))
theorem W_slices_Contains_string (f_slices_Index_string : (List ByteArray) → ByteArray → Option Int) (S_slices_Index_string : Sat_slices_Index_string f_slices_Index_string) : Sat_slices_Contains_string (B_slices_Contains_string f_slices_Index_string) := by
 intro a0 a1 r h σ K hK
 refine w_fp Try.func128 rfl rfl (by kernel_rfl) ?_
 unfold B_slices_Contains_string at h
 have hP := Pre.refl σ
 have E0 : argE [(.sl (List.map C_s a0)), (.v (.string a1))] 0 = (.sl (List.map C_s a0)) := rfl
 have E1 : argE [(.sl (List.map C_s a0)), (.v (.string a1))] 1 = (.v (.string a1)) := rfl
 have TT := cj4 Expr.rlen T_3 T_9 T_97
 refine w_sa (fun e s => e 0 = (.sl (List.map C_s a0)) ∧ e 1 = (.v (.string a1)) ∧ Pre σ s) ?_ fun e s hI => ?_
 ·refine w_x (cj3 E0 E1 TT) (k := ?_)
  exact cw_n ⟨_, WkE.refl _, (xv (cj3 E0 E1 TT)), (xv (cj3 E0 E1 TT)), hP⟩
 obtain ⟨E0, E1, hP⟩ := hI
 obtain ⟨y1, h2, h⟩ := bnd_some h
 refine w_sa (fun e s => e 4 = (.v (.bool (decide ((0 : Int) ≤ y1)))) ∧ Pre σ s) ?_ fun e s hI => ?_
 ·refine w_x (cj3 E0 E1 TT) (k := ?_)
  refine EC.wka (.cons (.refl _) (.cons (.refl _) .nil)) (S_slices_Index_string _ _ _ h2 _ _  ?_)
  refine w_y (cj3 E0 E1 TT) (k := ?_)
  exact cw_n ⟨_, WkE.refl _, (xv (cj3 E0 E1 TT)), hP⟩
 obtain ⟨E4, hP⟩ := hI
 refine w_ret ?_
 obtain rfl := some_inj h
 exact w_fin (fun _ => rfl) (xr (rs := #[.tmp 4]) E4) hP (r' := (.v (.bool (decide ((0 : Int) ≤ y1))))) (.refl _) (.v _) hK
end Go.Proofs.Ytohmmfimedgccaa.E
end
