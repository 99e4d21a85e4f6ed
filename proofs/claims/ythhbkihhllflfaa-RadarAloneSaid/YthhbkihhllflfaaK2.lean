/- Steps shared by the proofs of this seat's statements (part 2). -/
import Derived.Test.YthhbkihhllflfaaK1
import Derived.Deep.Slices
import Derived.ChangeArms
import Derived.ChangeSame
import Derived.SizedLaws
import Derived.WideShapes
import Derived.WalkKit
import Derived.ProofKit
import Derived.OpenShut
import Derived.ShutString
import Derived.ChangeOld
import Derived.Below
import Derived.Shelf.Small.Strs
import Derived.Shelf.Small.Wraps
import Derived.Shelf.Sort.Plain
import Derived.Shelf.Slices.In.SortNone
import Derived.Ground.Names2Prog
import Derived.Test.YthhbkihhllflfaaProg
import Derived.Shelf.GgSortFunc.InsertionK
import Derived.Lib.Bytealg
import Derived.Laws.BitsAllLaws
section
/- Each function's run over the program's whole table. -/
namespace Go.Proofs.YthhbkihhllflfaaF
open Go Go.Proofs.Vm
def shF (g : FuncId) : Bool := g == 52 || g == 63 || g == 77 || g == 78 || g == 37
def neF (g : FuncId) : Bool := g == 52
def cfg : Cfg := ⟨shF, neF, strTab 37⟩
noncomputable def TV : Tab := TT Try.prog cfg
@[simp] theorem sh37 : shF 37 = true := by decide
@[simp] theorem sh3 : shF 3 = false := by decide
theorem run3 {args : List CA} {r : CA} (hl : args.length ≤ 92) (h : wpV Try.prog TV ⟨92, shF, false⟩ (Try.f3.body.getD .skip) (endK Try.prog Try.f3.results.toList r) ⟨env0 args, []⟩) : TV.pu 3 args = some r := TT_go (N := ⟨92, shF, false⟩) Try.func3 (by kernel_rfl) ok3 (by kernel_rfl) (by kernel_rfl) (fun _ => rfl) hl h -- rillmeter/rillmeterlaw16.RadarPeels
@[simp] theorem sh4 : shF 4 = false := by decide
theorem run4 {args : List CA} {r : CA} (hl : args.length ≤ 72) (h : wpV Try.prog TV ⟨72, shF, false⟩ (Try.f4.body.getD .skip) (endK Try.prog Try.f4.results.toList r) ⟨env0 args, []⟩) : TV.pu 4 args = some r := TT_go (N := ⟨72, shF, false⟩) Try.func4 (by kernel_rfl) ok4 (by kernel_rfl) (by kernel_rfl) (fun _ => rfl) hl h -- rillmeter/rillmeterlaw16.RadarFinds
@[simp] theorem sh5 : shF 5 = false := by decide
theorem run5 {args : List CA} {r : CA} (hl : args.length ≤ 71) (h : wpV Try.prog TV ⟨71, shF, false⟩ (Try.f5.body.getD .skip) (endK Try.prog Try.f5.results.toList r) ⟨env0 args, []⟩) : TV.pu 5 args = some r := TT_go (N := ⟨71, shF, false⟩) Try.func5 (by kernel_rfl) ok5 (by kernel_rfl) (by kernel_rfl) (fun _ => rfl) hl h -- rillmeter/rillmeterlaw16.RadarOrder
@[simp] theorem sh6 : shF 6 = false := by decide
theorem run6 {args : List CA} {r : CA} (hl : args.length ≤ 106) (h : wpV Try.prog TV ⟨106, shF, false⟩ (Try.f6.body.getD .skip) (endK Try.prog Try.f6.results.toList r) ⟨env0 args, []⟩) : TV.pu 6 args = some r := TT_go (N := ⟨106, shF, false⟩) Try.func6 (by kernel_rfl) ok6 (by kernel_rfl) (by kernel_rfl) (fun _ => rfl) hl h -- rillmeter/rillmeterlaw16.RadarAlone
@[simp] theorem sh7 : shF 7 = false := by decide
theorem run7 {args : List CA} {r : CA} (hl : args.length ≤ 123) (h : wpV Try.prog TV ⟨123, shF, false⟩ (Try.f7.body.getD .skip) (endK Try.prog Try.f7.results.toList r) ⟨env0 args, []⟩) : TV.pu 7 args = some r := TT_go (N := ⟨123, shF, false⟩) Try.func7 (by kernel_rfl) ok7 (by kernel_rfl) (by kernel_rfl) (fun _ => rfl) hl h -- rillmeter/rillmeterlaw16.RadarTurns
@[simp] theorem sh8 : shF 8 = false := by decide
theorem run8 {args : List CA} {r : CA} (hl : args.length ≤ 118) (h : wpV Try.prog TV ⟨118, shF, false⟩ (Try.f8.body.getD .skip) (endK Try.prog Try.f8.results.toList r) ⟨env0 args, []⟩) : TV.pu 8 args = some r := TT_go (N := ⟨118, shF, false⟩) Try.func8 (by kernel_rfl) ok8 (by kernel_rfl) (by kernel_rfl) (fun _ => rfl) hl h -- rillmeter/rillmeterlaw16.RadarCounts
@[simp] theorem sh9 : shF 9 = false := by decide
theorem run9 {args : List CA} {r : CA} (hl : args.length ≤ 116) (h : wpV Try.prog TV ⟨116, shF, false⟩ (Try.f9.body.getD .skip) (endK Try.prog Try.f9.results.toList r) ⟨env0 args, []⟩) : TV.pu 9 args = some r := TT_go (N := ⟨116, shF, false⟩) Try.func9 (by kernel_rfl) ok9 (by kernel_rfl) (by kernel_rfl) (fun _ => rfl) hl h -- rillmeter/rillmeterlaw16.RadarNews
@[simp] theorem sh10 : shF 10 = false := by decide
theorem run10 {args : List CA} {r : CA} (hl : args.length ≤ 40) (h : wpV Try.prog TV ⟨40, shF, false⟩ (Try.f10.body.getD .skip) (endK Try.prog Try.f10.results.toList r) ⟨env0 args, []⟩) : TV.pu 10 args = some r := TT_go (N := ⟨40, shF, false⟩) Try.func10 (by kernel_rfl) ok10 (by kernel_rfl) (by kernel_rfl) (fun _ => rfl) hl h -- rillmeter/rillmeterlaw16.ref
@[simp] theorem sh11 : shF 11 = false := by decide
theorem run11 {args : List CA} {r : CA} (hl : args.length ≤ 52) (h : wpV Try.prog TV ⟨52, shF, false⟩ (Try.f11.body.getD .skip) (endK Try.prog Try.f11.results.toList r) ⟨env0 args, []⟩) : TV.pu 11 args = some r := TT_go (N := ⟨52, shF, false⟩) Try.func11 (by kernel_rfl) ok11 (by kernel_rfl) (by kernel_rfl) (fun _ => rfl) hl h -- rillmeter/rillmeterref16.Small
@[simp] theorem sh12 : shF 12 = false := by decide
theorem run12 {args : List CA} {r : CA} (hl : args.length ≤ 22) (h : wpV Try.prog TV ⟨22, shF, false⟩ (Try.f12.body.getD .skip) (endK Try.prog Try.f12.results.toList r) ⟨env0 args, []⟩) : TV.pu 12 args = some r := TT_go (N := ⟨22, shF, false⟩) Try.func12 (by kernel_rfl) ok12 (by kernel_rfl) (by kernel_rfl) (fun _ => rfl) hl h -- rillmeter/rillmeterref10.Short
@[simp] theorem sh13 : shF 13 = false := by decide
theorem run13 {args : List CA} {r : CA} (hl : args.length ≤ 56) (h : wpV Try.prog TV ⟨56, shF, false⟩ (Try.f13.body.getD .skip) (endK Try.prog Try.f13.results.toList r) ⟨env0 args, []⟩) : TV.pu 13 args = some r := TT_go (N := ⟨56, shF, false⟩) Try.func13 (by kernel_rfl) ok13 (by kernel_rfl) (by kernel_rfl) (fun _ => rfl) hl h -- rillmeter/rillmeterlaw16.awake
@[simp] theorem sh14 : shF 14 = false := by decide
theorem run14 {args : List CA} {r : CA} (hl : args.length ≤ 58) (h : wpV Try.prog TV ⟨58, shF, false⟩ (Try.f14.body.getD .skip) (endK Try.prog Try.f14.results.toList r) ⟨env0 args, []⟩) : TV.pu 14 args = some r := TT_go (N := ⟨58, shF, false⟩) Try.func14 (by kernel_rfl) ok14 (by kernel_rfl) (by kernel_rfl) (fun _ => rfl) hl h -- rillmeter/radar.Pure
@[simp] theorem sh15 : shF 15 = false := by decide
theorem run15 {args : List CA} {r : CA} (hl : args.length ≤ 26) (h : wpV Try.prog TV ⟨26, shF, false⟩ (Try.f15.body.getD .skip) (endK Try.prog Try.f15.results.toList r) ⟨env0 args, []⟩) : TV.pu 15 args = some r := TT_go (N := ⟨26, shF, false⟩) Try.func15 (by kernel_rfl) ok15 (by kernel_rfl) (by kernel_rfl) (fun _ => rfl) hl h -- rillmeter/radar.Peel
@[simp] theorem sh16 : shF 16 = false := by decide
theorem run16 {args : List CA} {r : CA} (hl : args.length ≤ 74) (h : wpV Try.prog TV ⟨74, shF, false⟩ (Try.f16.body.getD .skip) (endK Try.prog Try.f16.results.toList r) ⟨env0 args, []⟩) : TV.pu 16 args = some r := TT_go (N := ⟨74, shF, false⟩) Try.func16 (by kernel_rfl) ok16 (by kernel_rfl) (by kernel_rfl) (fun _ => rfl) hl h -- rillmeter/rillmeterref16.Right
@[simp] theorem sh17 : shF 17 = false := by decide
theorem run17 {args : List CA} {r : CA} (hl : args.length ≤ 76) (h : wpV Try.prog TV ⟨76, shF, false⟩ (Try.f17.body.getD .skip) (endK Try.prog Try.f17.results.toList r) ⟨env0 args, []⟩) : TV.pu 17 args = some r := TT_go (N := ⟨76, shF, false⟩) Try.func17 (by kernel_rfl) ok17 (by kernel_rfl) (by kernel_rfl) (fun _ => rfl) hl h -- rillmeter/rillmeterref16.Equal
@[simp] theorem sh18 : shF 18 = false := by decide
theorem run18 {args : List CA} {r : CA} (hl : args.length ≤ 59) (h : wpV Try.prog TV ⟨59, shF, false⟩ (Try.f18.body.getD .skip) (endK Try.prog Try.f18.results.toList r) ⟨env0 args, []⟩) : TV.pu 18 args = some r := TT_go (N := ⟨59, shF, false⟩) Try.func18 (by kernel_rfl) ok18 (by kernel_rfl) (by kernel_rfl) (fun _ => rfl) hl h -- rillmeter/rillmeterref16.Pure
@[simp] theorem sh19 : shF 19 = false := by decide
theorem run19 {args : List CA} {r : CA} (hl : args.length ≤ 23) (h : wpV Try.prog TV ⟨23, shF, false⟩ (Try.f19.body.getD .skip) (endK Try.prog Try.f19.results.toList r) ⟨env0 args, []⟩) : TV.pu 19 args = some r := TT_go (N := ⟨23, shF, false⟩) Try.func19 (by kernel_rfl) ok19 (by kernel_rfl) (by kernel_rfl) (fun _ => rfl) hl h -- rillmeter/rillmeterref16.Peel
@[simp] theorem sh20 : shF 20 = false := by decide
theorem run20 {args : List CA} {r : CA} (hl : args.length ≤ 26) (h : wpV Try.prog TV ⟨26, shF, false⟩ (Try.f20.body.getD .skip) (endK Try.prog Try.f20.results.toList r) ⟨env0 args, []⟩) : TV.pu 20 args = some r := TT_go (N := ⟨26, shF, false⟩) Try.func20 (by kernel_rfl) ok20 (by kernel_rfl) (by kernel_rfl) (fun _ => rfl) hl h -- rillmeter/rillmeterref16.Same
@[simp] theorem sh21 : shF 21 = false := by decide
theorem run21 {args : List CA} {r : CA} (hl : args.length ≤ 92) (h : wpV Try.prog TV ⟨92, shF, false⟩ (Try.f21.body.getD .skip) (endK Try.prog Try.f21.results.toList r) ⟨env0 args, []⟩) : TV.pu 21 args = some r := TT_go (N := ⟨92, shF, false⟩) Try.func21 (by kernel_rfl) ok21 (by kernel_rfl) (by kernel_rfl) (fun _ => rfl) hl h -- rillmeter/rillmeterlaw16.fed
@[simp] theorem sh22 : shF 22 = false := by decide
theorem run22 {args : List CA} {r : CA} (hl : args.length ≤ 18) (h : wpV Try.prog TV ⟨18, shF, false⟩ (Try.f22.body.getD .skip) (endK Try.prog Try.f22.results.toList r) ⟨env0 args, []⟩) : TV.pu 22 args = some r := TT_go (N := ⟨18, shF, false⟩) Try.func22 (by kernel_rfl) ok22 (by kernel_rfl) (by kernel_rfl) (fun _ => rfl) hl h -- rillmeter/rillmeterref16.In
@[simp] theorem sh23 : shF 23 = false := by decide
theorem run23 {args : List CA} {r : CA} (hl : args.length ≤ 11) (h : wpV Try.prog TV ⟨11, shF, false⟩ (Try.f23.body.getD .skip) (endK Try.prog Try.f23.results.toList r) ⟨env0 args, []⟩) : TV.pu 23 args = some r := TT_go (N := ⟨11, shF, false⟩) Try.func23 (by kernel_rfl) ok23 (by kernel_rfl) (by kernel_rfl) (fun _ => rfl) hl h -- rillmeter/radar.Empty
@[simp] theorem sh24 : shF 24 = false := by decide
theorem run24 {args : List CA} {r : CA} (hl : args.length ≤ 59) (h : wpV Try.prog TV ⟨59, shF, false⟩ (Try.f24.body.getD .skip) (endK Try.prog Try.f24.results.toList r) ⟨env0 args, []⟩) : TV.pu 24 args = some r := TT_go (N := ⟨59, shF, false⟩) Try.func24 (by kernel_rfl) ok24 (by kernel_rfl) (by kernel_rfl) (fun _ => rfl) hl h -- rillmeter/radar.New
@[simp] theorem sh25 : shF 25 = false := by decide
theorem run25 {args : List CA} {r : CA} (hl : args.length ≤ 89) (h : wpV Try.prog TV ⟨89, shF, false⟩ (Try.f25.body.getD .skip) (endK Try.prog Try.f25.results.toList r) ⟨env0 args, []⟩) : TV.pu 25 args = some r := TT_go (N := ⟨89, shF, false⟩) Try.func25 (by kernel_rfl) ok25 (by kernel_rfl) (by kernel_rfl) (fun _ => rfl) hl h -- rillmeter/radar.Add
@[simp] theorem sh26 : shF 26 = false := by decide
theorem run26 {args : List CA} {r : CA} (hl : args.length ≤ 57) (h : wpV Try.prog TV ⟨57, shF, false⟩ (Try.f26.body.getD .skip) (endK Try.prog Try.f26.results.toList r) ⟨env0 args, []⟩) : TV.pu 26 args = some r := TT_go (N := ⟨57, shF, false⟩) Try.func26 (by kernel_rfl) ok26 (by kernel_rfl) (by kernel_rfl) (fun _ => rfl) hl h -- rillmeter/radar.Remove
@[simp] theorem sh27 : shF 27 = false := by decide
theorem run27 {args : List CA} {r : CA} (hl : args.length ≤ 47) (h : wpV Try.prog TV ⟨47, shF, false⟩ (Try.f27.body.getD .skip) (endK Try.prog Try.f27.results.toList r) ⟨env0 args, []⟩) : TV.pu 27 args = some r := TT_go (N := ⟨47, shF, false⟩) Try.func27 (by kernel_rfl) ok27 (by kernel_rfl) (by kernel_rfl) (fun _ => rfl) hl h -- rillmeter/rillmeterref16.Add
@[simp] theorem sh28 : shF 28 = false := by decide
theorem run28 {args : List CA} {r : CA} (hl : args.length ≤ 30) (h : wpV Try.prog TV ⟨30, shF, false⟩ (Try.f28.body.getD .skip) (endK Try.prog Try.f28.results.toList r) ⟨env0 args, []⟩) : TV.pu 28 args = some r := TT_go (N := ⟨30, shF, false⟩) Try.func28 (by kernel_rfl) ok28 (by kernel_rfl) (by kernel_rfl) (fun _ => rfl) hl h -- rillmeter/radar.Place
@[simp] theorem sh29 : shF 29 = false := by decide
theorem run29 {args : List CA} {r : CA} (hl : args.length ≤ 33) (h : wpV Try.prog TV ⟨33, shF, false⟩ (Try.f29.body.getD .skip) (endK Try.prog Try.f29.results.toList r) ⟨env0 args, []⟩) : TV.pu 29 args = some r := TT_go (N := ⟨33, shF, false⟩) Try.func29 (by kernel_rfl) ok29 (by kernel_rfl) (by kernel_rfl) (fun _ => rfl) hl h -- rillmeter/radar.Right
@[simp] theorem sh30 : shF 30 = false := by decide
theorem run30 {args : List CA} {r : CA} (hl : args.length ≤ 41) (h : wpV Try.prog TV ⟨41, shF, false⟩ (Try.f30.body.getD .skip) (endK Try.prog Try.f30.results.toList r) ⟨env0 args, []⟩) : TV.pu 30 args = some r := TT_go (N := ⟨41, shF, false⟩) Try.func30 (by kernel_rfl) ok30 (by kernel_rfl) (by kernel_rfl) (fun _ => rfl) hl h -- rillmeter/rillmeterref16.Empty
@[simp] theorem sh31 : shF 31 = false := by decide
theorem run31 {args : List CA} {r : CA} (hl : args.length ≤ 20) (h : wpV Try.prog TV ⟨20, shF, false⟩ (Try.f31.body.getD .skip) (endK Try.prog Try.f31.results.toList r) ⟨env0 args, []⟩) : TV.pu 31 args = some r := TT_go (N := ⟨20, shF, false⟩) Try.func31 (by kernel_rfl) ok31 (by kernel_rfl) (by kernel_rfl) (fun _ => rfl) hl h -- rillmeter/rillmeterref16.Place
@[simp] theorem sh32 : shF 32 = false := by decide
theorem run32 {args : List CA} {r : CA} (hl : args.length ≤ 8) (h : wpV Try.prog TV ⟨8, shF, false⟩ (Try.f32.body.getD .skip) (endK Try.prog Try.f32.results.toList r) ⟨env0 args, []⟩) : TV.pu 32 args = some r := TT_go (N := ⟨8, shF, false⟩) Try.func32 (by kernel_rfl) ok32 (by kernel_rfl) (by kernel_rfl) (fun _ => rfl) hl h -- rillmeter/rillmeterref16.Remove
@[simp] theorem sh33 : shF 33 = false := by decide
theorem run33 {args : List CA} {r : CA} (hl : args.length ≤ 22) (h : wpV Try.prog TV ⟨22, shF, false⟩ (Try.f33.body.getD .skip) (endK Try.prog Try.f33.results.toList r) ⟨env0 args, []⟩) : TV.pu 33 args = some r := TT_go (N := ⟨22, shF, false⟩) Try.func33 (by kernel_rfl) ok33 (by kernel_rfl) (by kernel_rfl) (fun _ => rfl) hl h -- rillmeter/bloom.Set
@[simp] theorem sh34 : shF 34 = false := by decide
theorem run34 {args : List CA} {r : CA} (hl : args.length ≤ 20) (h : wpV Try.prog TV ⟨20, shF, false⟩ (Try.f34.body.getD .skip) (endK Try.prog Try.f34.results.toList r) ⟨env0 args, []⟩) : TV.pu 34 args = some r := TT_go (N := ⟨20, shF, false⟩) Try.func34 (by kernel_rfl) ok34 (by kernel_rfl) (by kernel_rfl) (fun _ => rfl) hl h -- (rillmeter/radar.Radar).place
@[simp] theorem sh35 : shF 35 = false := by decide
theorem run35 {args : List CA} {r : CA} (hl : args.length ≤ 15) (h : wpV Try.prog TV ⟨15, shF, false⟩ (Try.f35.body.getD .skip) (endK Try.prog Try.f35.results.toList r) ⟨env0 args, []⟩) : TV.pu 35 args = some r := TT_go (N := ⟨15, shF, false⟩) Try.func35 (by kernel_rfl) ok35 (by kernel_rfl) (by kernel_rfl) (fun _ => rfl) hl h -- rillmeter/bloom.Has
@[simp] theorem sh36 : shF 36 = false := by decide
theorem run36 {args : List CA} {r : CA} (hl : args.length ≤ 9) (h : wpV Try.prog TV ⟨9, shF, false⟩ (Try.f36.body.getD .skip) (endK Try.prog Try.f36.results.toList r) ⟨env0 args, []⟩) : TV.pu 36 args = some r := TT_go (N := ⟨9, shF, false⟩) Try.func36 (by kernel_rfl) ok36 (by kernel_rfl) (by kernel_rfl) (fun _ => rfl) hl h -- slices.Contains[[]string,string]
@[simp] theorem sh38 : shF 38 = false := by decide
theorem run38 {args : List CA} {r : CA} (hl : args.length ≤ 23) (h : wpV Try.prog TV ⟨23, shF, false⟩ (Try.f38.body.getD .skip) (endK Try.prog Try.f38.results.toList r) ⟨env0 args, []⟩) : TV.pu 38 args = some r := TT_go (N := ⟨23, shF, false⟩) Try.func38 (by kernel_rfl) ok38 (by kernel_rfl) (by kernel_rfl) (fun _ => rfl) hl h -- rillmeter/rillmeterref10.Right
@[simp] theorem sh39 : shF 39 = false := by decide
theorem run39 {args : List CA} {r : CA} (hl : args.length ≤ 17) (h : wpV Try.prog TV ⟨17, shF, false⟩ (Try.f39.body.getD .skip) (endK Try.prog Try.f39.results.toList r) ⟨env0 args, []⟩) : TV.pu 39 args = some r := TT_go (N := ⟨17, shF, false⟩) Try.func39 (by kernel_rfl) ok39 (by kernel_rfl) (by kernel_rfl) (fun _ => rfl) hl h -- rillmeter/rillmeterref02.Row
@[simp] theorem sh40 : shF 40 = false := by decide
theorem run40 {args : List CA} {r : CA} (hl : args.length ≤ 37) (h : wpV Try.prog TV ⟨37, shF, false⟩ (Try.f40.body.getD .skip) (endK Try.prog Try.f40.results.toList r) ⟨env0 args, []⟩) : TV.pu 40 args = some r := TT_go (N := ⟨37, shF, false⟩) Try.func40 (by kernel_rfl) ok40 (by kernel_rfl) (by kernel_rfl) (fun _ => rfl) hl h -- rillmeter/rillmeterref16.cell
@[simp] theorem sh41 : shF 41 = false := by decide
theorem run41 {args : List CA} {r : CA} (hl : args.length ≤ 45) (h : wpV Try.prog TV ⟨45, shF, false⟩ (Try.f41.body.getD .skip) (endK Try.prog Try.f41.results.toList r) ⟨env0 args, []⟩) : TV.pu 41 args = some r := TT_go (N := ⟨45, shF, false⟩) Try.func41 (by kernel_rfl) ok41 (by kernel_rfl) (by kernel_rfl) (fun _ => rfl) hl h -- rillmeter/rillmeterref10.Equal
@[simp] theorem sh42 : shF 42 = false := by decide
theorem run42 {args : List CA} {r : CA} (hl : args.length ≤ 29) (h : wpV Try.prog TV ⟨29, shF, false⟩ (Try.f42.body.getD .skip) (endK Try.prog Try.f42.results.toList r) ⟨env0 args, []⟩) : TV.pu 42 args = some r := TT_go (N := ⟨29, shF, false⟩) Try.func42 (by kernel_rfl) ok42 (by kernel_rfl) (by kernel_rfl) (fun _ => rfl) hl h -- rillmeter/rillmeterref10.Has
@[simp] theorem sh43 : shF 43 = false := by decide
theorem run43 {args : List CA} {r : CA} (hl : args.length ≤ 42) (h : wpV Try.prog TV ⟨42, shF, false⟩ (Try.f43.body.getD .skip) (endK Try.prog Try.f43.results.toList r) ⟨env0 args, []⟩) : TV.pu 43 args = some r := TT_go (N := ⟨42, shF, false⟩) Try.func43 (by kernel_rfl) ok43 (by kernel_rfl) (by kernel_rfl) (fun _ => rfl) hl h -- rillmeter/rillmeterref16.Put
@[simp] theorem sh44 : shF 44 = false := by decide
theorem run44 {args : List CA} {r : CA} (hl : args.length ≤ 9) (h : wpV Try.prog TV ⟨9, shF, false⟩ (Try.f44.body.getD .skip) (endK Try.prog Try.f44.results.toList r) ⟨env0 args, []⟩) : TV.pu 44 args = some r := TT_go (N := ⟨9, shF, false⟩) Try.func44 (by kernel_rfl) ok44 (by kernel_rfl) (by kernel_rfl) (fun _ => rfl) hl h -- slices.ContainsFunc[[][]rillmeter/radar.Cell,[]rillmeter/radar.Cell]
@[simp] theorem sh45 : shF 45 = false := by decide
theorem run45 {args : List CA} {r : CA} (hl : args.length ≤ 5) (h : wpV Try.prog TV ⟨5, shF, false⟩ (Try.f45.body.getD .skip) (endK Try.prog Try.f45.results.toList r) ⟨env0 args, []⟩) : TV.pu 45 args = some r := TT_go (N := ⟨5, shF, false⟩) Try.func45 (by kernel_rfl) ok45 (by kernel_rfl) (by kernel_rfl) (fun _ => rfl) hl h -- rillmeter/radar.Empty$1
@[simp] theorem sh46 : shF 46 = false := by decide
theorem run46 {args : List CA} {r : CA} (hl : args.length ≤ 9) (h : wpV Try.prog TV ⟨9, shF, false⟩ (Try.f46.body.getD .skip) (endK Try.prog Try.f46.results.toList r) ⟨env0 args, []⟩) : TV.pu 46 args = some r := TT_go (N := ⟨9, shF, false⟩) Try.func46 (by kernel_rfl) ok46 (by kernel_rfl) (by kernel_rfl) (fun _ => rfl) hl h -- slices.ContainsFunc[[]rillmeter/radar.Cell,rillmeter/radar.Cell]
@[simp] theorem sh47 : shF 47 = false := by decide
theorem run47 {args : List CA} {r : CA} (hl : args.length ≤ 11) (h : wpV Try.prog TV ⟨11, shF, false⟩ (Try.f47.body.getD .skip) (endK Try.prog Try.f47.results.toList r) ⟨env0 args, []⟩) : TV.pu 47 args = some r := TT_go (N := ⟨11, shF, false⟩) Try.func47 (by kernel_rfl) ok47 (by kernel_rfl) (by kernel_rfl) (fun _ => rfl) hl h -- rillmeter/radar.Empty$1$1
@[simp] theorem sh48 : shF 48 = false := by decide
theorem run48 {args : List CA} {r : CA} (hl : args.length ≤ 26) (h : wpV Try.prog TV ⟨26, shF, false⟩ (Try.f48.body.getD .skip) (endK Try.prog Try.f48.results.toList r) ⟨env0 args, []⟩) : TV.pu 48 args = some r := TT_go (N := ⟨26, shF, false⟩) Try.func48 (by kernel_rfl) ok48 (by kernel_rfl) (by kernel_rfl) (fun _ => rfl) hl h -- rillmeter/bloom.New
@[simp] theorem sh49 : shF 49 = false := by decide
theorem run49 {args : List CA} {r : CA} (hl : args.length ≤ 17) (h : wpV Try.prog TV ⟨17, shF, false⟩ (Try.f49.body.getD .skip) (endK Try.prog Try.f49.results.toList r) ⟨env0 args, []⟩) : TV.pu 49 args = some r := TT_go (N := ⟨17, shF, false⟩) Try.func49 (by kernel_rfl) ok49 (by kernel_rfl) (by kernel_rfl) (fun _ => rfl) hl h -- rillmeter/hash.Row
@[simp] theorem sh50 : shF 50 = false := by decide
theorem run50 {args : List CA} {r : CA} (hl : args.length ≤ 48) (h : wpV Try.prog TV ⟨48, shF, false⟩ (Try.f50.body.getD .skip) (endK Try.prog Try.f50.results.toList r) ⟨env0 args, []⟩) : TV.pu 50 args = some r := TT_go (N := ⟨48, shF, false⟩) Try.func50 (by kernel_rfl) ok50 (by kernel_rfl) (by kernel_rfl) (fun _ => rfl) hl h -- slices.Repeat[[]rillmeter/radar.Cell,rillmeter/radar.Cell]
@[simp] theorem sh51 : shF 51 = false := by decide
theorem run51 {args : List CA} {r : CA} (hl : args.length ≤ 9) (h : wpV Try.prog TV ⟨9, shF, false⟩ (Try.f51.body.getD .skip) (endK Try.prog Try.f51.results.toList r) ⟨env0 args, []⟩) : TV.pu 51 args = some r := TT_go (N := ⟨9, shF, false⟩) Try.func51 (by kernel_rfl) ok51 (by kernel_rfl) (by kernel_rfl) (fun _ => rfl) hl h -- rillmeter/radar.fits
@[simp] theorem sh52 : shF 52 = true := by decide
theorem runX52 {args : List AV} {H : Hp} {Q : AV → Hp → Prop} (hl : args.length ≤ 27) (hQ : ∀ a K, Q a K → H.length ≤ K.length) (h : wpV Try.prog TV ⟨27, shF, true⟩ (Try.f52.body.getD .skip) (endX Try.prog Try.f52.results.toList Q) ⟨envS args, H⟩) : ∃ a K, TV.S 52 args H = some (a, K) ∧ Q a K := TT_goX (N := ⟨27, shF, true⟩) Try.func52 (by kernel_rfl) ok52 (by kernel_rfl) (by kernel_rfl) rfl hl hQ h -- rillmeter/radar.clone
theorem run52 {args : List AV} {r : AV} {H H' : Hp} (hl : args.length ≤ 27) (hH : H.length ≤ H'.length) (h : wpV Try.prog TV ⟨27, shF, true⟩ (Try.f52.body.getD .skip) (endS Try.prog Try.f52.results.toList r H') ⟨envS args, H⟩) : TV.S 52 args H = some (r, H') := TT_goS (N := ⟨27, shF, true⟩) Try.func52 (by kernel_rfl) ok52 (by kernel_rfl) (by kernel_rfl) rfl hl hH h -- rillmeter/radar.clone
@[simp] theorem sh53 : shF 53 = false := by decide
theorem run53 {args : List CA} {r : CA} (hl : args.length ≤ 25) (h : wpV Try.prog TV ⟨25, shF, false⟩ (Try.f53.body.getD .skip) (endK Try.prog Try.f53.results.toList r) ⟨env0 args, []⟩) : TV.pu 53 args = some r := TT_go (N := ⟨25, shF, false⟩) Try.func53 (by kernel_rfl) ok53 (by kernel_rfl) (by kernel_rfl) (fun _ => rfl) hl h -- rillmeter/bloom.Add
@[simp] theorem sh54 : shF 54 = false := by decide
theorem run54 {args : List CA} {r : CA} (hl : args.length ≤ 26) (h : wpV Try.prog TV ⟨26, shF, false⟩ (Try.f54.body.getD .skip) (endK Try.prog Try.f54.results.toList r) ⟨env0 args, []⟩) : TV.pu 54 args = some r := TT_go (N := ⟨26, shF, false⟩) Try.func54 (by kernel_rfl) ok54 (by kernel_rfl) (by kernel_rfl) (fun _ => rfl) hl h -- rillmeter/radar.xor
@[simp] theorem sh55 : shF 55 = false := by decide
theorem run55 {args : List CA} {r : CA} (hl : args.length ≤ 29) (h : wpV Try.prog TV ⟨29, shF, false⟩ (Try.f55.body.getD .skip) (endK Try.prog Try.f55.results.toList r) ⟨env0 args, []⟩) : TV.pu 55 args = some r := TT_go (N := ⟨29, shF, false⟩) Try.func55 (by kernel_rfl) ok55 (by kernel_rfl) (by kernel_rfl) (fun _ => rfl) hl h -- rillmeter/radar.wrong
@[simp] theorem sh56 : shF 56 = false := by decide
theorem run56 {args : List CA} {r : CA} (hl : args.length ≤ 87) (h : wpV Try.prog TV ⟨87, shF, false⟩ (Try.f56.body.getD .skip) (endK Try.prog Try.f56.results.toList r) ⟨env0 args, []⟩) : TV.pu 56 args = some r := TT_go (N := ⟨87, shF, false⟩) Try.func56 (by kernel_rfl) ok56 (by kernel_rfl) (by kernel_rfl) (fun _ => rfl) hl h -- rillmeter/rillmeterref16.turn
@[simp] theorem sh57 : shF 57 = false := by decide
theorem run57 {args : List CA} {r : CA} (hl : args.length ≤ 35) (h : wpV Try.prog TV ⟨35, shF, false⟩ (Try.f57.body.getD .skip) (endK Try.prog Try.f57.results.toList r) ⟨env0 args, []⟩) : TV.pu 57 args = some r := TT_go (N := ⟨35, shF, false⟩) Try.func57 (by kernel_rfl) ok57 (by kernel_rfl) (by kernel_rfl) (fun _ => rfl) hl h -- rillmeter/rillmeterref10.Add
@[simp] theorem sh58 : shF 58 = false := by decide
theorem run58 {args : List CA} {r : CA} (hl : args.length ≤ 23) (h : wpV Try.prog TV ⟨23, shF, false⟩ (Try.f58.body.getD .skip) (endK Try.prog Try.f58.results.toList r) ⟨env0 args, []⟩) : TV.pu 58 args = some r := TT_go (N := ⟨23, shF, false⟩) Try.func58 (by kernel_rfl) ok58 (by kernel_rfl) (by kernel_rfl) (fun _ => rfl) hl h -- rillmeter/bloom.Right
@[simp] theorem sh59 : shF 59 = false := by decide
theorem run59 {args : List CA} {r : CA} (hl : args.length ≤ 26) (h : wpV Try.prog TV ⟨26, shF, false⟩ (Try.f59.body.getD .skip) (endK Try.prog Try.f59.results.toList r) ⟨env0 args, []⟩) : TV.pu 59 args = some r := TT_go (N := ⟨26, shF, false⟩) Try.func59 (by kernel_rfl) ok59 (by kernel_rfl) (by kernel_rfl) (fun _ => rfl) hl h -- rillmeter/radar.Right$1
@[simp] theorem sh60 : shF 60 = false := by decide
theorem run60 {args : List CA} {r : CA} (hl : args.length ≤ 16) (h : wpV Try.prog TV ⟨16, shF, false⟩ (Try.f60.body.getD .skip) (endK Try.prog Try.f60.results.toList r) ⟨env0 args, []⟩) : TV.pu 60 args = some r := TT_go (N := ⟨16, shF, false⟩) Try.func60 (by kernel_rfl) ok60 (by kernel_rfl) (by kernel_rfl) (fun _ => rfl) hl h -- rillmeter/rillmeterref02.Cell
@[simp] theorem sh61 : shF 61 = false := by decide
theorem run61 {args : List CA} {r : CA} (hl : args.length ≤ 16) (h : wpV Try.prog TV ⟨16, shF, false⟩ (Try.f61.body.getD .skip) (endK Try.prog Try.f61.results.toList r) ⟨env0 args, []⟩) : TV.pu 61 args = some r := TT_go (N := ⟨16, shF, false⟩) Try.func61 (by kernel_rfl) ok61 (by kernel_rfl) (by kernel_rfl) (fun _ => rfl) hl h -- rillmeter/hash.Cell
@[simp] theorem sh62 : shF 62 = false := by decide
theorem run62 {args : List CA} {r : CA} (hl : args.length ≤ 9) (h : wpV Try.prog TV ⟨9, shF, false⟩ (Try.f62.body.getD .skip) (endK Try.prog Try.f62.results.toList r) ⟨env0 args, []⟩) : TV.pu 62 args = some r := TT_go (N := ⟨9, shF, false⟩) Try.func62 (by kernel_rfl) ok62 (by kernel_rfl) (by kernel_rfl) (fun _ => rfl) hl h -- slices.ContainsFunc[[]int,int]
@[simp] theorem sh63 : shF 63 = true := by decide
theorem runX63 {args : List AV} {H : Hp} {Q : AV → Hp → Prop} (hl : args.length ≤ 29) (hQ : ∀ a K, Q a K → H.length ≤ K.length) (h : wpV Try.prog TV ⟨29, shF, false⟩ (Try.f63.body.getD .skip) (endX Try.prog Try.f63.results.toList Q) ⟨envS args, H⟩) : ∃ a K, TV.S 63 args H = some (a, K) ∧ Q a K := TT_goX (N := ⟨29, shF, false⟩) Try.func63 (by kernel_rfl) ok63 (by kernel_rfl) (by kernel_rfl) rfl hl hQ h -- rillmeter/bloom.Places
theorem run63 {args : List AV} {r : AV} {H H' : Hp} (hl : args.length ≤ 29) (hH : H.length ≤ H'.length) (h : wpV Try.prog TV ⟨29, shF, false⟩ (Try.f63.body.getD .skip) (endS Try.prog Try.f63.results.toList r H') ⟨envS args, H⟩) : TV.S 63 args H = some (r, H') := TT_goS (N := ⟨29, shF, false⟩) Try.func63 (by kernel_rfl) ok63 (by kernel_rfl) (by kernel_rfl) rfl hl hH h -- rillmeter/bloom.Places
@[simp] theorem sh64 : shF 64 = false := by decide
theorem run64 {args : List CA} {r : CA} (hl : args.length ≤ 10) (h : wpV Try.prog TV ⟨10, shF, false⟩ (Try.f64.body.getD .skip) (endK Try.prog Try.f64.results.toList r) ⟨env0 args, []⟩) : TV.pu 64 args = some r := TT_go (N := ⟨10, shF, false⟩) Try.func64 (by kernel_rfl) ok64 (by kernel_rfl) (by kernel_rfl) (fun _ => rfl) hl h -- rillmeter/bloom.Has$1
@[simp] theorem sh65 : shF 65 = false := by decide
theorem run65 {args : List CA} {r : CA} (hl : args.length ≤ 19) (h : wpV Try.prog TV ⟨19, shF, false⟩ (Try.f65.body.getD .skip) (endK Try.prog Try.f65.results.toList r) ⟨env0 args, []⟩) : TV.pu 65 args = some r := TT_go (N := ⟨19, shF, false⟩) Try.func65 (by kernel_rfl) ok65 (by kernel_rfl) (by kernel_rfl) (fun _ => rfl) hl h -- slices.Index[[]string,string]
@[simp] theorem sh66 : shF 66 = false := by decide
@[simp] theorem sh67 : shF 67 = false := by decide
@[simp] theorem sh68 : shF 68 = false := by decide
theorem run68 {args : List CA} {r : CA} (hl : args.length ≤ 26) (h : wpV Try.prog TV ⟨26, shF, false⟩ (Try.f68.body.getD .skip) (endK Try.prog Try.f68.results.toList r) ⟨env0 args, []⟩) : TV.pu 68 args = some r := TT_go (N := ⟨26, shF, false⟩) Try.func68 (by kernel_rfl) ok68 (by kernel_rfl) (by kernel_rfl) (fun _ => rfl) hl h -- rillmeter/rillmeterref01.Mul
@[simp] theorem sh69 : shF 69 = false := by decide
theorem run69 {args : List CA} {r : CA} (hl : args.length ≤ 11) (h : wpV Try.prog TV ⟨11, shF, false⟩ (Try.f69.body.getD .skip) (endK Try.prog Try.f69.results.toList r) ⟨env0 args, []⟩) : TV.pu 69 args = some r := TT_go (N := ⟨11, shF, false⟩) Try.func69 (by kernel_rfl) ok69 (by kernel_rfl) (by kernel_rfl) (fun _ => rfl) hl h -- rillmeter/rillmeterref01.Add
@[simp] theorem sh70 : shF 70 = false := by decide
theorem run70 {args : List CA} {r : CA} (hl : args.length ≤ 22) (h : wpV Try.prog TV ⟨22, shF, false⟩ (Try.f70.body.getD .skip) (endK Try.prog Try.f70.results.toList r) ⟨env0 args, []⟩) : TV.pu 70 args = some r := TT_go (N := ⟨22, shF, false⟩) Try.func70 (by kernel_rfl) ok70 (by kernel_rfl) (by kernel_rfl) (fun _ => rfl) hl h -- rillmeter/rillmeterref01.Pow
@[simp] theorem sh71 : shF 71 = false := by decide
theorem run71 {args : List CA} {r : CA} (hl : args.length ≤ 29) (h : wpV Try.prog TV ⟨29, shF, false⟩ (Try.f71.body.getD .skip) (endK Try.prog Try.f71.results.toList r) ⟨env0 args, []⟩) : TV.pu 71 args = some r := TT_go (N := ⟨29, shF, false⟩) Try.func71 (by kernel_rfl) ok71 (by kernel_rfl) (by kernel_rfl) (fun _ => rfl) hl h -- rillmeter/rillmeterref10.at
@[simp] theorem sh72 : shF 72 = false := by decide
theorem run72 {args : List CA} {r : CA} (hl : args.length ≤ 19) (h : wpV Try.prog TV ⟨19, shF, false⟩ (Try.f72.body.getD .skip) (endK Try.prog Try.f72.results.toList r) ⟨env0 args, []⟩) : TV.pu 72 args = some r := TT_go (N := ⟨19, shF, false⟩) Try.func72 (by kernel_rfl) ok72 (by kernel_rfl) (by kernel_rfl) (fun _ => rfl) hl h -- slices.IndexFunc[[][]rillmeter/radar.Cell,[]rillmeter/radar.Cell]
@[simp] theorem sh73 : shF 73 = false := by decide
theorem run73 {args : List CA} {r : CA} (hl : args.length ≤ 19) (h : wpV Try.prog TV ⟨19, shF, false⟩ (Try.f73.body.getD .skip) (endK Try.prog Try.f73.results.toList r) ⟨env0 args, []⟩) : TV.pu 73 args = some r := TT_go (N := ⟨19, shF, false⟩) Try.func73 (by kernel_rfl) ok73 (by kernel_rfl) (by kernel_rfl) (fun _ => rfl) hl h -- slices.IndexFunc[[]rillmeter/radar.Cell,rillmeter/radar.Cell]
@[simp] theorem sh74 : shF 74 = false := by decide
theorem run74 {args : List CA} {r : CA} (hl : args.length ≤ 11) (h : wpV Try.prog TV ⟨11, shF, false⟩ (Try.f74.body.getD .skip) (endK Try.prog Try.f74.results.toList r) ⟨env0 args, []⟩) : TV.pu 74 args = some r := TT_go (N := ⟨11, shF, false⟩) Try.func74 (by kernel_rfl) ok74 (by kernel_rfl) (by kernel_rfl) (fun _ => rfl) hl h -- rillmeter/field.Add
@[simp] theorem sh75 : shF 75 = false := by decide
theorem run75 {args : List CA} {r : CA} (hl : args.length ≤ 24) (h : wpV Try.prog TV ⟨24, shF, false⟩ (Try.f75.body.getD .skip) (endK Try.prog Try.f75.results.toList r) ⟨env0 args, []⟩) : TV.pu 75 args = some r := TT_go (N := ⟨24, shF, false⟩) Try.func75 (by kernel_rfl) ok75 (by kernel_rfl) (by kernel_rfl) (fun _ => rfl) hl h -- rillmeter/field.Mul
@[simp] theorem sh76 : shF 76 = false := by decide
theorem run76 {args : List CA} {r : CA} (hl : args.length ≤ 30) (h : wpV Try.prog TV ⟨30, shF, false⟩ (Try.f76.body.getD .skip) (endK Try.prog Try.f76.results.toList r) ⟨env0 args, []⟩) : TV.pu 76 args = some r := TT_go (N := ⟨30, shF, false⟩) Try.func76 (by kernel_rfl) ok76 (by kernel_rfl) (by kernel_rfl) (fun _ => rfl) hl h -- math/bits.Mul
@[simp] theorem sh77 : shF 77 = true := by decide
theorem runX77 {args : List AV} {H : Hp} {Q : AV → Hp → Prop} (hl : args.length ≤ 8) (hQ : ∀ a K, Q a K → H.length ≤ K.length) (h : wpV Try.prog TV ⟨8, shF, false⟩ (Try.f77.body.getD .skip) (endX Try.prog Try.f77.results.toList Q) ⟨envS args, H⟩) : ∃ a K, TV.S 77 args H = some (a, K) ∧ Q a K := TT_goX (N := ⟨8, shF, false⟩) Try.func77 (by kernel_rfl) ok77 (by kernel_rfl) (by kernel_rfl) rfl hl hQ h -- slices.Clone[[]rillmeter/radar.Cell,rillmeter/radar.Cell]
theorem run77 {args : List AV} {r : AV} {H H' : Hp} (hl : args.length ≤ 8) (hH : H.length ≤ H'.length) (h : wpV Try.prog TV ⟨8, shF, false⟩ (Try.f77.body.getD .skip) (endS Try.prog Try.f77.results.toList r H') ⟨envS args, H⟩) : TV.S 77 args H = some (r, H') := TT_goS (N := ⟨8, shF, false⟩) Try.func77 (by kernel_rfl) ok77 (by kernel_rfl) (by kernel_rfl) rfl hl hH h -- slices.Clone[[]rillmeter/radar.Cell,rillmeter/radar.Cell]
@[simp] theorem sh78 : shF 78 = true := by decide
theorem runX78 {args : List AV} {H : Hp} {Q : AV → Hp → Prop} (hl : args.length ≤ 8) (hQ : ∀ a K, Q a K → H.length ≤ K.length) (h : wpV Try.prog TV ⟨8, shF, false⟩ (Try.f78.body.getD .skip) (endX Try.prog Try.f78.results.toList Q) ⟨envS args, H⟩) : ∃ a K, TV.S 78 args H = some (a, K) ∧ Q a K := TT_goX (N := ⟨8, shF, false⟩) Try.func78 (by kernel_rfl) ok78 (by kernel_rfl) (by kernel_rfl) rfl hl hQ h -- slices.Clone[[]bool,bool]
theorem run78 {args : List AV} {r : AV} {H H' : Hp} (hl : args.length ≤ 8) (hH : H.length ≤ H'.length) (h : wpV Try.prog TV ⟨8, shF, false⟩ (Try.f78.body.getD .skip) (endS Try.prog Try.f78.results.toList r H') ⟨envS args, H⟩) : TV.S 78 args H = some (r, H') := TT_goS (N := ⟨8, shF, false⟩) Try.func78 (by kernel_rfl) ok78 (by kernel_rfl) (by kernel_rfl) rfl hl hH h -- slices.Clone[[]bool,bool]
@[simp] theorem sh79 : shF 79 = false := by decide
theorem run79 {args : List CA} {r : CA} (hl : args.length ≤ 25) (h : wpV Try.prog TV ⟨25, shF, false⟩ (Try.f79.body.getD .skip) (endK Try.prog Try.f79.results.toList r) ⟨env0 args, []⟩) : TV.pu 79 args = some r := TT_go (N := ⟨25, shF, false⟩) Try.func79 (by kernel_rfl) ok79 (by kernel_rfl) (by kernel_rfl) (fun _ => rfl) hl h -- rillmeter/rillmeterref16.xor
@[simp] theorem sh80 : shF 80 = false := by decide
theorem run80 {args : List CA} {r : CA} (hl : args.length ≤ 36) (h : wpV Try.prog TV ⟨36, shF, false⟩ (Try.f80.body.getD .skip) (endK Try.prog Try.f80.results.toList r) ⟨env0 args, []⟩) : TV.pu 80 args = some r := TT_go (N := ⟨36, shF, false⟩) Try.func80 (by kernel_rfl) ok80 (by kernel_rfl) (by kernel_rfl) (fun _ => rfl) hl h -- rillmeter/rillmeterref02.Sum
@[simp] theorem sh81 : shF 81 = false := by decide
theorem run81 {args : List CA} {r : CA} (hl : args.length ≤ 51) (h : wpV Try.prog TV ⟨51, shF, false⟩ (Try.f81.body.getD .skip) (endK Try.prog Try.f81.results.toList r) ⟨env0 args, []⟩) : TV.pu 81 args = some r := TT_go (N := ⟨51, shF, false⟩) Try.func81 (by kernel_rfl) ok81 (by kernel_rfl) (by kernel_rfl) (fun _ => rfl) hl h -- rillmeter/hash.Sum
@[simp] theorem sh82 : shF 82 = false := by decide
theorem run82 {args : List CA} {r : CA} (hl : args.length ≤ 19) (h : wpV Try.prog TV ⟨19, shF, false⟩ (Try.f82.body.getD .skip) (endK Try.prog Try.f82.results.toList r) ⟨env0 args, []⟩) : TV.pu 82 args = some r := TT_go (N := ⟨19, shF, false⟩) Try.func82 (by kernel_rfl) ok82 (by kernel_rfl) (by kernel_rfl) (fun _ => rfl) hl h -- slices.IndexFunc[[]int,int]
@[simp] theorem sh83 : shF 83 = false := by decide
@[simp] theorem sh84 : shF 84 = false := by decide
@[simp] theorem sh85 : shF 85 = false := by decide
@[simp] theorem sh86 : shF 86 = false := by decide
@[simp] theorem sh87 : shF 87 = false := by decide
@[simp] theorem sh88 : shF 88 = false := by decide
@[simp] theorem sh89 : shF 89 = false := by decide
@[simp] theorem sh90 : shF 90 = false := by decide
@[simp] theorem sh91 : shF 91 = false := by decide
@[simp] theorem sh92 : shF 92 = false := by decide
@[simp] theorem sh93 : shF 93 = false := by decide
@[simp] theorem sh94 : shF 94 = false := by decide
theorem run94 {args : List CA} {r : CA} (hl : args.length ≤ 13) (h : wpV Try.prog TV ⟨13, shF, false⟩ (Try.f94.body.getD .skip) (endK Try.prog Try.f94.results.toList r) ⟨env0 args, []⟩) : TV.pu 94 args = some r := TT_go (N := ⟨13, shF, false⟩) Try.func94 (by kernel_rfl) ok94 (by kernel_rfl) (by kernel_rfl) (fun _ => rfl) hl h -- rillmeter/field.Of
@[simp] theorem sh95 : shF 95 = false := by decide
theorem run95 {args : List CA} {r : CA} (hl : args.length ≤ 51) (h : wpV Try.prog TV ⟨51, shF, false⟩ (Try.f95.body.getD .skip) (endK Try.prog Try.f95.results.toList r) ⟨env0 args, []⟩) : TV.pu 95 args = some r := TT_go (N := ⟨51, shF, false⟩) Try.func95 (by kernel_rfl) ok95 (by kernel_rfl) (by kernel_rfl) (fun _ => rfl) hl h -- math/bits.Mul64
@[simp] theorem sh96 : shF 96 = false := by decide
@[simp] theorem sh97 : shF 97 = false := by decide
theorem run97 {args : List CA} {r : CA} (hl : args.length ≤ 5) (h : wpV Try.prog TV ⟨5, shF, false⟩ (Try.f97.body.getD .skip) (endK Try.prog Try.f97.results.toList r) ⟨env0 args, []⟩) : TV.pu 97 args = some r := TT_go (N := ⟨5, shF, false⟩) Try.func97 (by kernel_rfl) ok97 (by kernel_rfl) (by kernel_rfl) (fun _ => rfl) hl h -- rillmeter/rillmeterref01.Of
@[simp] theorem sh98 : shF 98 = false := by decide
theorem run98 {args : List CA} {r : CA} (hl : args.length ≤ 48) (h : wpV Try.prog TV ⟨48, shF, false⟩ (Try.f98.body.getD .skip) (endK Try.prog Try.f98.results.toList r) ⟨env0 args, []⟩) : TV.pu 98 args = some r := TT_go (N := ⟨48, shF, false⟩) Try.func98 (by kernel_rfl) ok98 (by kernel_rfl) (by kernel_rfl) (fun _ => rfl) hl h -- rillmeter/rillmeterref02.words
@[simp] theorem sh99 : shF 99 = false := by decide
theorem run99 {args : List CA} {r : CA} (hl : args.length ≤ 22) (h : wpV Try.prog TV ⟨22, shF, false⟩ (Try.f99.body.getD .skip) (endK Try.prog Try.f99.results.toList r) ⟨env0 args, []⟩) : TV.pu 99 args = some r := TT_go (N := ⟨22, shF, false⟩) Try.func99 (by kernel_rfl) ok99 (by kernel_rfl) (by kernel_rfl) (fun _ => rfl) hl h -- rillmeter/field.Pow
@[simp] theorem sh100 : shF 100 = false := by decide
@[simp] theorem sh101 : shF 101 = false := by decide
@[simp] theorem sh102 : shF 102 = false := by decide
@[simp] theorem sh103 : shF 103 = false := by decide
@[simp] theorem sh104 : shF 104 = false := by decide
@[simp] theorem sh105 : shF 105 = false := by decide
@[simp] theorem sh106 : shF 106 = false := by decide
end Go.Proofs.YthhbkihhllflfaaF
end

section
/- A law's arguments, read as data, are closed values; and what a law tells of them stands in the statement's form. -/
namespace Go.Proofs.Vm
open Go Go.RowKit Go.ChangeShapes Go.WideShapes

def All (w : World) : Nat → Prop := fun b => b < w.heap.size

/-- Whatever reads as data of type T is so many closed cells, that are good. -/
def Opens (P : Program) (T : TypeId) (sz : Nat) (good : List CV → Prop) : Prop :=
  ∀ (H : Type) (enc : TypeId × Value → H) (W : World) (spare : Nat → Bool) (held : Bool) (fuel : Nat) (cs : List Value) (x : DataW H × List MemPlace),
    DataW.trod enc P W 0 spare held fuel T cs = some x → (∀ q ∈ DataW.weights P T x.1, q ≤ 140737488351232) → ∃ l : List CV, RKs (All W) W l cs ∧ l.length = sz ∧ good l

variable {P : Program}

theorem rks_one {I : Nat → Prop} {w : World} {x : CV} {v : Value} (h : RC I w x v) : RKs I w [x] [v] := by
  refine ⟨rfl, fun j y z hy hz => ?_⟩
  cases j with
  | zero => cases hy; cases hz; exact h
  | succ j => simp at hy
theorem rks_append {I : Nat → Prop} {w : World} {l m : List CV} {vs us : List Value} (h : RKs I w l vs) (k : RKs I w m us) : RKs I w (l ++ m) (vs ++ us) := by
  refine ⟨by simp [h.1, k.1], fun j x y hx hy => ?_⟩
  by_cases hj : j < l.length
  · rw [List.getElem?_append_left hj] at hx
    rw [List.getElem?_append_left (by rw [← h.1]; exact hj)] at hy
    exact h.2 j x y hx hy
  · rw [List.getElem?_append_right (by omega)] at hx
    rw [List.getElem?_append_right (by rw [← h.1]; omega), ← h.1] at hy
    exact k.2 _ x y hx hy

def isI (k : IntKind) (l : List CV) : Prop := ∃ n, l = [.v (.int k n)] ∧ (Lit.int k n).wf = true
def isB (l : List CV) : Prop := ∃ b, l = [.v (.bool b)]
def isS (l : List CV) : Prop := ∃ s : ByteArray, l = [.v (.string s)] ∧ s.size ≤ 140737488351232
def isL (sz bytes : Nat) (good : List CV → Prop) (l : List CV) : Prop := ∃ L : List (List CV), l = [.arr L] ∧ (∀ e ∈ L, e.length = sz ∧ good e) ∧ L.length * bytes ≤ 140737488351232
def isP (good good' : List CV → Prop) (l : List CV) : Prop := ∃ a b, l = a ++ b ∧ good a ∧ good' b

theorem opens_int {T : TypeId} {k : IntKind} (ht : P.underlying T = some (.int k)) : Opens P T 1 (isI k) := by
  intro H enc W spare held fuel cs x h _
  obtain ⟨n, rfl, _, hw⟩ := DataW.trod_int ht h
  exact ⟨_, rks_one (.v _ rfl), rfl, n, rfl, hw⟩
theorem opens_bool {T : TypeId} (ht : P.underlying T = some .bool) : Opens P T 1 isB := by
  intro H enc W spare held fuel cs x h _
  obtain ⟨n, rfl, _⟩ := DataW.trod_bool ht h
  exact ⟨_, rks_one (.v _ rfl), rfl, n, rfl⟩
theorem opens_string {T : TypeId} (ht : P.underlying T = some .string) : Opens P T 1 isS := by
  intro H enc W spare held fuel cs x h hq
  obtain ⟨s, rfl, rfl, _⟩ := DataW.trod_string ht h
  have h1 := hq s.data.toList.length (by simp [DataW.weights])
  rw [Array.length_toList] at h1
  exact ⟨_, rks_one (.v _ rfl), rfl, s, rfl, h1⟩
theorem cells_at {W : World} {a : Addr} {n : Nat} {cs : List Value} (h : W.cells? 0 a n = some cs) : cs.length = n ∧ ∀ i u, cs[i]? = some u → W.cell? (a.add i) = some u := by
  unfold World.cells? at h
  rw [if_pos (Nat.zero_le _)] at h
  have hl : cs.length = n := by have := mapM_some_length h; simpa using this
  refine ⟨hl, fun i u hu => ?_⟩
  have hi : i < n := by have := (List.getElem?_eq_some_iff.1 hu).1; omega
  have h1 := mapM_some_get h i i (by simp [hi])
  rw [h1, hu]
theorem weights_all {H : Type} {e : TypeId} {l : List (DataW H)} {d : DataW H} (hd : d ∈ l) : ∀ q ∈ DataW.weights P e d, q ∈ DataW.weightsAll P e l := by
  induction l with
  | nil => cases hd
  | cons y t ih =>
    intro q hq
    simp only [DataW.weightsAll, List.mem_append]
    rcases List.mem_cons.1 hd with rfl | h
    · exact .inl hq
    · exact .inr (ih h q hq)
theorem opens_slice {T e : TypeId} {sz bytes : Nat} {good : List CV → Prop} (ht : P.underlying T = some (.slice e)) (hc : P.cellsOf e = sz) (hz : 0 < sz) (hb : P.bytesOf e = bytes) (he : Opens P e sz good) : Opens P T 1 (isL sz bytes good) := by
  intro H enc W spare held fuel cs x h hq
  rcases Go.Deep.open_slice ht h with ⟨rfl, rfl⟩ | ⟨a, len, cap, m, n, D, Pl, rfl, _, hlc, hcap, hm, rfl, hel⟩
  · refine ⟨[.arr []], rks_one (.arr [] none 0 0 (fun _ _ => .bool false) (Nat.le_refl _) (by simp) (by simp) (by simp)), rfl, [], rfl, by simp, by simp⟩
  · have hlm : len ≤ m := by rw [hm]; split <;> omega
    simp only [DataW.weights, ht, List.mem_cons, List.mem_append] at hq
    obtain ⟨F, hF⟩ := Go.Deep.choose_lt (α := List CV × List Value) (n := len) (p := fun i y => W.cells? 0 (a.add (i * P.cellsOf e)) (P.cellsOf e) = some y.2 ∧ RKs (All W) W y.1 y.2 ∧ y.1.length = sz ∧ good y.1) (fun i hi => by
      obtain ⟨cs', h1, h2⟩ := hel i (by omega)
      obtain ⟨l, hl, hs, hg⟩ := he H enc W spare held n cs' (D i, Pl i) h2 (fun q hq1 => hq q (.inr (.inl (weights_all (List.mem_map.2 ⟨i, List.mem_range.2 hi, rfl⟩) q hq1))))
      exact ⟨(l, cs'), h1, hl, hs, hg⟩)
    have hw : len * bytes ≤ 140737488351232 := by
      have h1 := hq _ (.inl rfl)
      rw [hb] at h1
      refine Nat.le_trans (Nat.mul_le_mul_right _ ?_) h1
      simp
    have hlen : ((List.range len).map fun i => (F i).1).length = len := by simp
    have get : ∀ (i : Nat) e, ((List.range len).map fun i => (F i).1)[i]? = some e → i < len ∧ e = (F i).1 := by
      intro i e hi
      have hl := (List.getElem?_eq_some_iff.1 hi).1
      rw [hlen] at hl
      rw [List.getElem?_map, List.getElem?_range hl] at hi
      cases hi
      exact ⟨hl, rfl⟩
    have cell : ∀ i j, i < len → j < sz → W.cell? ((a.add (i * sz)).add j) = some ((F i).2.getD j (.bool false)) := by
      intro i j hi hj
      obtain ⟨h1, h2, h3, _⟩ := hF i hi
      obtain ⟨k1, k2⟩ := cells_at h1
      rw [hc] at k1 k2
      refine k2 j _ ?_
      rw [List.getD_eq_getElem?_getD, List.getElem?_eq_getElem (by omega)]
      rfl
    have key : RC (All W) W (.arr ((List.range len).map fun i => (F i).1)) (.slice (some a) ((List.range len).map fun i => (F i).1).length cap) := by
      refine .arr _ (some a) cap sz (fun i j => (F i).2.getD j (.bool false)) (by rw [hlen]; exact hlc) (fun e he => ?_) (fun hn => ?_) (fun i j e x hi hx => ?_)
      · obtain ⟨i, hi⟩ := List.getElem?_of_mem he
        obtain ⟨hl, rfl⟩ := get i e hi
        exact (hF i hl).2.2.1
      · have hp : 0 < len := by
          rcases Nat.eq_zero_or_pos len with h0 | h0
          · subst h0; exact absurd rfl hn
          · exact h0
        have c0 := cell 0 0 hp hz
        have hadd : ∀ k, a.spot = none → a.add k = ⟨a.block, a.off + k, none⟩ := fun k hs => by
          obtain ⟨b, o, s⟩ := a
          cases hs
          simp [Addr.add]
        have hs : a.spot = none := by
          simp only [Nat.zero_mul] at c0
          rw [show (a.add 0).add 0 = a by simp [Addr.add]] at c0
          unfold World.cell? at c0
          split at c0
          · split at c0
            · cases c0
            · rename_i h0; simpa using h0
          · cases c0
        refine ⟨a.block, a.off, by obtain ⟨b, o, s⟩ := a; cases hs; rfl, ?_, fun i j hi hj => ?_⟩
        · simp only [Nat.zero_mul] at c0
          rw [show (a.add 0).add 0 = a by simp [Addr.add]] at c0
          show a.block < W.heap.size
          unfold World.cell? at c0
          rcases Nat.lt_or_ge a.block W.heap.size with h0 | h0
          · exact h0
          · rw [Array.getElem?_eq_none h0] at c0; cases c0
        · have := cell i j (by rw [hlen] at hi; exact hi) hj
          rw [Addr.add_add, hadd _ hs] at this
          rw [← this]
      · obtain ⟨hl, rfl⟩ := get i e hi
        obtain ⟨h1, h2, h3, _⟩ := hF i hl
        have hj : j < (F i).1.length := (List.getElem?_eq_some_iff.1 hx).1
        have hj2 : j < (F i).2.length := by rw [← h2.1]; exact hj
        refine h2.2 j x _ hx ?_
        rw [List.getD_eq_getElem?_getD, List.getElem?_eq_getElem hj2]
        rfl
    rw [hlen] at key
    refine ⟨_, rks_one key, rfl, _, rfl, fun e he => ?_, by rw [hlen]; exact hw⟩
    obtain ⟨i, hi⟩ := List.getElem?_of_mem he
    obtain ⟨hl, rfl⟩ := get i e hi
    exact (hF i hl).2.2
/-- The fields of a struct, from a place on. -/
def OpensAt (P : Program) (fs : List Field) (o sz : Nat) (good : List CV → Prop) : Prop :=
  ∀ (H : Type) (enc : TypeId × Value → H) (W : World) (spare : Nat → Bool) (held : Bool) (n : Nat) (cs : List Value), cs.length = o + sz →
    (∀ f ∈ fs, ∃ y : DataW H × List MemPlace, DataW.trod enc P W 0 spare held n f.type ((cs.drop f.offset).take (P.cellsOf f.type)) = some y ∧ ∀ q ∈ DataW.weights P f.type y.1, q ≤ 140737488351232) →
    ∃ l : List CV, RKs (All W) W l (cs.drop o) ∧ l.length = sz ∧ good l
theorem at_one {f : Field} {o sz : Nat} {good : List CV → Prop} (ho : f.offset = o) (hc : P.cellsOf f.type = sz) (hf : Opens P f.type sz good) : OpensAt P [f] o sz good := by
  intro H enc W spare held n cs hl h
  obtain ⟨y, hy, hq⟩ := h f List.mem_cons_self
  obtain ⟨a, hK, hg⟩ := hf H enc W spare held n _ y hy hq
  rw [ho, hc, List.take_of_length_le (by rw [List.length_drop]; omega)] at hK
  exact ⟨a, hK, hg⟩
theorem at_cons {f : Field} {fs : List Field} {o sz sz' : Nat} {good good' : List CV → Prop} (ho : f.offset = o) (hc : P.cellsOf f.type = sz) (hf : Opens P f.type sz good) (hfs : OpensAt P fs (o + sz) sz' good') :
    OpensAt P (f :: fs) o (sz + sz') (isP good good') := by
  intro H enc W spare held n cs hl h
  obtain ⟨y, hy, hq⟩ := h f List.mem_cons_self
  obtain ⟨a, hK, hs, hg⟩ := hf H enc W spare held n _ y hy hq
  obtain ⟨b, hK', hs', hg'⟩ := hfs H enc W spare held n cs (by rw [hl]; omega) (fun f' hf' => h f' (List.mem_cons_of_mem _ hf'))
  rw [ho, hc] at hK
  refine ⟨a ++ b, ?_, by simp [hs, hs'], a, b, rfl, hg, hg'⟩
  have := rks_append hK hK'
  rwa [← List.drop_drop, List.take_append_drop] at this
theorem opens_struct {T : TypeId} {fs : Array Field} {sz : Nat} {good : List CV → Prop} (ht : P.underlying T = some (.struct fs)) (hc : P.cellsOf T = sz) (hf : OpensAt P fs.toList 0 sz good) : Opens P T sz good := by
  intro H enc W spare held fuel cs x h hq
  obtain ⟨xs, n, _, rfl, hl, hlen, hget⟩ := DataW.trod_struct ht h
  obtain ⟨a, hK, hg⟩ := hf H enc W spare held n cs (by rw [hl, hc, Nat.zero_add]) (fun f hfm => by
    obtain ⟨i, hi, rfl⟩ := List.getElem_of_mem hfm
    have hi' : i < fs.size := by simpa using hi
    have h1 := hget i fs[i] (by simp [hi'])
    have hi2 : i < xs.length := by omega
    refine ⟨xs[i], by rw [← List.getElem?_eq_getElem hi2, ← h1]; simp, fun q hq1 => hq q ?_⟩
    simp only [DataW.weights, ht]
    refine DataW.weights_mem_each (j := i) (t := fs[i].type) (d := xs[i].1) ?_ ?_ q (by simpa using hq1)
    · simp [hi']
    · simp [hi2])
  exact ⟨a, by simpa using hK, hg⟩

/-- An argument of type T is a closed value that is good. -/
def OpA (P : Program) (T : TypeId) (good : CA → Prop) : Prop :=
  ∀ (H : Type) (enc : TypeId × Value → H) (W : World) (base : Nat) (v : Value) (d : DataW H) (ps : List MemPlace), DataW.Trod enc P W 0 (fun _ => true) true T v d ps → Value.okWide P W .any base T v → (∀ q ∈ DataW.weights P T d, q ≤ 140737488351232) →
    ∃ a : CA, RK (All W) W a v ∧ good a

theorem opA_one {T : TypeId} {good : List CV → Prop} (hn : ∀ fs, P.underlying T ≠ some (.struct fs)) (hn2 : ∀ n e, P.underlying T ≠ some (.array n e)) (h : Opens P T 1 good) : OpA P T (fun a => ∃ x, a = .one x ∧ good [x]) := by
  intro H enc W base v d ps ⟨fuel, hf⟩ hok hq
  obtain ⟨l, hl, hs, hg⟩ := h H enc W _ _ fuel _ _ hf hq
  match l, hs with
  | [x], _ =>
    refine ⟨.one x, ?_, x, rfl, hg⟩
    have hl1 : v.cells.toList.length = 1 := by rw [← hl.1]; rfl
    have hv : v.cells = #[v] := by
      unfold Value.okWide at hok
      split at hok
      · rename_i fs h0; exact absurd h0 (hn fs)
      · rename_i n e h0; exact absurd h0 (hn2 _ _)
      · unfold Cell.okWide Cell.ok at hok
        cases v <;> first | rfl | (exfalso; revert hok; split <;> simp_all)
    rw [hv] at hl
    exact hl.2 0 x v rfl rfl
theorem opA_agg {T : TypeId} {fs : Array Field} {sz : Nat} {good : List CV → Prop} (ht : P.underlying T = some (.struct fs)) (h : Opens P T sz good) : OpA P T (fun a => ∃ l, a = .agg l ∧ l.length = sz ∧ good l) := by
  intro H enc W base v d ps ⟨fuel, hf⟩ hok hq
  obtain ⟨l, hl, hs, hg⟩ := h H enc W _ _ fuel _ _ hf hq
  refine ⟨.agg l, ?_, l, rfl, hs, hg⟩
  obtain ⟨cs, rfl, _⟩ := okWide_struct ht hok
  exact ⟨cs.toList, by simp, hl⟩

/-- The arguments of a function. -/
def OpAll (P : Program) (ts : List TypeId) (good : List CA → Prop) : Prop :=
  ∀ (H : Type) (enc : TypeId × Value → H) (W : World) (base : Nat) (vs : List Value) (ds : List (DataW H)) (ps : List MemPlace), DataW.TrodAll enc P W 0 (fun _ => true) true ts vs ds ps →
    (∀ (j : Nat) t v, ts[j]? = some t → vs[j]? = some v → Value.okWide P W .any base t v) → (∀ (j : Nat) t d, ts[j]? = some t → ds[j]? = some d → ∀ q ∈ DataW.weights P t d, q ≤ 140737488351232) →
    ∃ l : List CA, RKL (All W) W l vs ∧ good l
theorem opAll_nil : OpAll P [] (fun l => l = []) := by
  intro H enc W base vs ds ps h _ _
  obtain ⟨rfl, _, _⟩ := trodAll_nil h
  exact ⟨[], ⟨rfl, fun j x y hx => by simp at hx⟩, rfl⟩
theorem opAll_cons {T : TypeId} {ts : List TypeId} {g : CA → Prop} {gs : List CA → Prop} (h : OpA P T g) (hs : OpAll P ts gs) : OpAll P (T :: ts) (fun l => ∃ a r, l = a :: r ∧ g a ∧ gs r) := by
  intro H enc W base vs ds ps ht hok hq
  obtain ⟨v, vs, d, ds, p, q, rfl, rfl, rfl, h0, r0⟩ := trodAll_cons ht
  obtain ⟨a, hK, hg⟩ := h H enc W base v d p h0 (hok 0 T v rfl rfl) (hq 0 T d rfl rfl)
  obtain ⟨l, hL, hgs⟩ := hs H enc W base vs ds q r0 (fun j t v h1 h2 => hok (j + 1) t v h1 h2) (fun j t v h1 h2 => hq (j + 1) t v h1 h2)
  refine ⟨a :: l, ⟨by simp [hL.1], fun j x y hx hy => ?_⟩, a, l, rfl, hg, hgs⟩
  cases j with
  | zero => cases hx; cases hy; exact hK
  | succ j => exact hL.2 j x y hx hy

/-- Old memory reads as it did. -/
theorem trodAll_stays {H : Type} {enc : TypeId × Value → H} (hl : laidOutB P = true) {W W' : World} (hb : ∀ b, b < W.heap.size → W'.heap[b]? = W.heap[b]?) :
    ∀ {ts : List TypeId} {vs : List Value} {ds : List (DataW H)} {ps : List MemPlace}, ts.all (fun t => P.readableRec t && decide (t < P.types.size)) = true → DataW.TrodAll enc P W 0 (fun _ => true) true ts vs ds ps →
      DataW.TrodAll enc P W' 0 (fun b => decide (b < W.heap.size)) true ts vs ds ps
  | [], vs, ds, ps, _, h => by
    obtain ⟨rfl, rfl, rfl⟩ := trodAll_nil h
    exact trodAll_mk0
  | t :: ts, vs, ds, ps, hr, h => by
    obtain ⟨v, vs, d, ds, p, q, rfl, rfl, rfl, h0, r0⟩ := trodAll_cons h
    simp only [List.all_cons, Bool.and_eq_true, decide_eq_true_eq] at hr
    have lt0 : ∀ x ∈ p, x.block < W.heap.size := by obtain ⟨m, hm⟩ := h0; exact DataW.trod_lt m _ _ _ hm
    refine trodAll_cons_mk (WideElems.Trod_stays hl hr.1.1 hr.1.2 h0 (fun x hx => ?_) (fun x hx => by simpa using lt0 x hx)) (trodAll_stays hl hb hr.2 r0)
    have hlt := lt0 x hx
    exact (Below.same (W := W) (w' := { W with heap := W'.heap }) ⟨rfl, rfl, rfl, by
      rcases Nat.lt_or_ge W'.heap.size W.heap.size with h1 | h1
      · have := hb W'.heap.size h1
        rw [Array.getElem?_eq_none (Nat.le_refl _), Array.getElem?_eq_getElem h1] at this
        cases this
      · exact h1, hb⟩ hlt : W.sameAt { W with heap := W'.heap } x)

theorem kept_of {W W' : World} (hk : Stl W W') (hb : ∀ b, b < W.heap.size → W'.heap[b]? = W.heap[b]?) (may : MemPlace → Prop) : W.keptBut W' may := by
  refine ⟨hk.1.1, hk.2.1, fun i hi => ?_⟩
  rw [hb i hi]
  split <;> simp_all

/-- WHAT A FUNCTION TELLS of whatever arguments. -/
theorem lift_law {T : Tab} (hT : PuOk P T) {f : FuncId} {ts : List TypeId} {good : List CA → Prop} (hl : laidOutB P = true) (hr : ts.all (fun t => P.readableRec t && decide (t < P.types.size)) = true) (ho : OpAll P ts good)
    {r : CA} (hp : ∀ l, good l → T.pu f l = some r) {H : Type} {enc : TypeId × Value → H} {W : World} {base : Nat} {args : Array Value} {ds : List (DataW H)} {ps : List MemPlace} (ht : DataW.TrodAll enc P W 0 (fun _ => true) true ts args.toList ds ps)
    (hok : ∀ (j : Nat) t v, ts[j]? = some t → args[j]? = some v → Value.okWide P W .any base t v) (hq : ∀ (j : Nat) t d, ts[j]? = some t → ds[j]? = some d → ∀ q ∈ DataW.weights P t d, q ≤ 140737488351232) :
    Calls P f args W fun e W' => ∃ v I', e = .returned v ∧ RK I' W' r v ∧ Stl W W' ∧ (∀ b, b < W.heap.size → W'.heap[b]? = W.heap[b]?) ∧ DataW.TrodAll enc P W' 0 (fun b => decide (b < W.heap.size)) true ts args.toList ds ps := by
  obtain ⟨l, hL, hg⟩ := ho H enc W base args.toList ds ps ht (fun j t v h1 h2 => hok j t v h1 (by simpa using h2)) hq
  obtain ⟨_, hc⟩ := hT f l r (hp l hg)
  have := hc (All W) W args.toList (fun _ h => h) hL
  refine (show Calls P f args W _ from this).mono fun e W' he => ?_
  obtain ⟨v, I', rfl, _, _, _, _, hb, hk, hR⟩ := he
  exact ⟨v, I', rfl, hR, hk, hb, trodAll_stays hl hb hr ht⟩

theorem trodAll_len {H : Type} {enc : TypeId × Value → H} {W : World} {base : Nat} {spare : Nat → Bool} {held : Bool} : ∀ {ts : List TypeId} {vs : List Value} {ds : List (DataW H)} {ps : List MemPlace}, DataW.TrodAll enc P W base spare held ts vs ds ps → ds.length = ts.length
  | [], vs, ds, ps, h => by
    obtain ⟨_, rfl, _⟩ := trodAll_nil h
    rfl
  | t :: ts, vs, ds, ps, h => by
    obtain ⟨v, vs, d, ds, p, q, rfl, rfl, rfl, _, r0⟩ := trodAll_cons h
    rw [List.length_cons, List.length_cons, trodAll_len r0]
theorem weights_of {H : Type} {ts us : List TypeId} {ds gs : List (DataW H)} (hsz : (DataW.weightsEach P (ts ++ us) (ds ++ gs)).all (· ≤ reachBytes) = true) (j : Nat) (t : TypeId) (d : DataW H) (ht : ts[j]? = some t) (hd : ds[j]? = some d) :
    ∀ q ∈ DataW.weights P t d, q ≤ 140737488351232 := by
  intro q hq
  have h1 : (ts ++ us)[j]? = some t := by rw [List.getElem?_append_left (List.getElem?_eq_some_iff.1 ht).1]; exact ht
  have h2 : (ds ++ gs)[j]? = some d := by rw [List.getElem?_append_left (List.getElem?_eq_some_iff.1 hd).1]; exact hd
  have h3 := of_decide_eq_true (List.all_eq_true.1 hsz q (DataW.weights_mem_each h1 h2 q hq))
  simpa [reachBytes] using h3

/-- A list of good parts is the list of what they tell. -/
theorem map_of {α : Type} {f : α → List CV} {g : α → Prop} : ∀ {L : List (List CV)}, (∀ e ∈ L, ∃ a, e = f a ∧ g a) → ∃ xs : List α, L = xs.map f ∧ ∀ x ∈ xs, g x
  | [], _ => ⟨[], rfl, by simp⟩
  | e :: L, h => by
    obtain ⟨a, rfl, ha⟩ := h e List.mem_cons_self
    obtain ⟨xs, rfl, hx⟩ := map_of (L := L) fun e he => h e (List.mem_cons_of_mem _ he)
    exact ⟨a :: xs, rfl, fun x hx' => (List.mem_cons.1 hx').elim (fun h => h ▸ ha) (hx x)⟩

end Go.Proofs.Vm
end

section
/- How data of the laws' parameter types open as closed values. -/
namespace Go.Proofs.YthhbkihhllflfaaF
open Go Go.Proofs.Vm
def good23 : List CV → Prop := isL 1 1 (isB)
theorem opens23 : Opens Try.prog 23 1 good23 := opens_slice Try.underlying23 (by kernel_rfl) (by decide) (by kernel_rfl) (opens_bool Try.underlying4)
def good25 : List CV → Prop := isP (isI .u64) (isP (isI .i64) ((good23)))
theorem opens25 : Opens Try.prog 25 3 good25 := opens_struct Try.underlying25 (by kernel_rfl) (at_cons (sz := 1) (sz' := 2) rfl (by kernel_rfl) (opens_int Try.underlying22) (at_cons (sz := 1) (sz' := 1) rfl (by kernel_rfl) (opens_int Try.underlying3) (at_one (sz := 1) rfl (by kernel_rfl) opens23)))
def good74 : List CV → Prop := isP (isS) (isP (isI .i64) (isP (isI .i64) ((isI .i64))))
theorem opens74 : Opens Try.prog 74 4 good74 := opens_struct Try.underlying74 (by kernel_rfl) (at_cons (sz := 1) (sz' := 3) rfl (by kernel_rfl) (opens_string Try.underlying9) (at_cons (sz := 1) (sz' := 2) rfl (by kernel_rfl) (opens_int Try.underlying3) (at_cons (sz := 1) (sz' := 1) rfl (by kernel_rfl) (opens_int Try.underlying3) (at_one (sz := 1) rfl (by kernel_rfl) (opens_int Try.underlying3)))))
def good72 : List CV → Prop := isL 4 40 (good74)
theorem opens72 : Opens Try.prog 72 1 good72 := opens_slice Try.underlying72 (by kernel_rfl) (by decide) (by kernel_rfl) opens74
def good26 : List CV → Prop := isL 1 24 (good72)
theorem opens26 : Opens Try.prog 26 1 good26 := opens_slice Try.underlying26 (by kernel_rfl) (by decide) (by kernel_rfl) opens72
def good28 : List CV → Prop := isP (isI .u64) (isP (good25) ((good26)))
theorem opens28 : Opens Try.prog 28 5 good28 := opens_struct Try.underlying28 (by kernel_rfl) (at_cons (sz := 1) (sz' := 4) rfl (by kernel_rfl) (opens_int Try.underlying22) (at_cons (sz := 3) (sz' := 1) rfl (by kernel_rfl) opens25 (at_one (sz := 1) rfl (by kernel_rfl) opens26)))
def good29 : List CV → Prop := isL 1 16 (isS)
theorem opens29 : Opens Try.prog 29 1 good29 := opens_slice Try.underlying29 (by kernel_rfl) (by decide) (by kernel_rfl) (opens_string Try.underlying9)
def good49 : List CV → Prop := isP (isI .u64) (isP (isI .i64) (isP (isI .i64) (isP (isI .i64) ((isI .i64)))))
theorem opens49 : Opens Try.prog 49 5 good49 := opens_struct Try.underlying49 (by kernel_rfl) (at_cons (sz := 1) (sz' := 4) rfl (by kernel_rfl) (opens_int Try.underlying22) (at_cons (sz := 1) (sz' := 3) rfl (by kernel_rfl) (opens_int Try.underlying3) (at_cons (sz := 1) (sz' := 2) rfl (by kernel_rfl) (opens_int Try.underlying3) (at_cons (sz := 1) (sz' := 1) rfl (by kernel_rfl) (opens_int Try.underlying3) (at_one (sz := 1) rfl (by kernel_rfl) (opens_int Try.underlying3))))))
def good57 : List CV → Prop := isP (isS) ((isI .i64))
theorem opens57 : Opens Try.prog 57 2 good57 := opens_struct Try.underlying57 (by kernel_rfl) (at_cons (sz := 1) (sz' := 1) rfl (by kernel_rfl) (opens_string Try.underlying9) (at_one (sz := 1) rfl (by kernel_rfl) (opens_int Try.underlying3)))
def good50 : List CV → Prop := isL 2 24 (good57)
theorem opens50 : Opens Try.prog 50 1 good50 := opens_slice Try.underlying50 (by kernel_rfl) (by decide) (by kernel_rfl) opens57
def good58 : List CV → Prop := isL 1 2 (isI .u16)
theorem opens58 : Opens Try.prog 58 1 good58 := opens_slice Try.underlying58 (by kernel_rfl) (by decide) (by kernel_rfl) (opens_int Try.underlying62)
def goodsRadarPeels : List CA → Prop := (fun l => ∃ a r, l = a :: r ∧ (fun a => ∃ l, a = .agg l ∧ l.length = 5 ∧ good28 l) a ∧ (fun l => ∃ a r, l = a :: r ∧ (fun a => ∃ x, a = .one x ∧ good29 [x]) a ∧ (fun l => l = []) r) r)
theorem opensRadarPeels : OpAll Try.prog [28, 29] goodsRadarPeels := (opAll_cons (opA_agg Try.underlying28 opens28) (opAll_cons (opA_one (fun _ h => by rw [Try.underlying29] at h; cases h) (fun _ _ h => by rw [Try.underlying29] at h; cases h) opens29) opAll_nil))
def goodsRadarFinds : List CA → Prop := (fun l => ∃ a r, l = a :: r ∧ (fun a => ∃ l, a = .agg l ∧ l.length = 5 ∧ good49 l) a ∧ (fun l => ∃ a r, l = a :: r ∧ (fun a => ∃ x, a = .one x ∧ good50 [x]) a ∧ (fun l => l = []) r) r)
theorem opensRadarFinds : OpAll Try.prog [49, 50] goodsRadarFinds := (opAll_cons (opA_agg Try.underlying49 opens49) (opAll_cons (opA_one (fun _ h => by rw [Try.underlying50] at h; cases h) (fun _ _ h => by rw [Try.underlying50] at h; cases h) opens50) opAll_nil))
def goodsRadarOrder : List CA → Prop := (fun l => ∃ a r, l = a :: r ∧ (fun a => ∃ l, a = .agg l ∧ l.length = 5 ∧ good49 l) a ∧ (fun l => ∃ a r, l = a :: r ∧ (fun a => ∃ x, a = .one x ∧ good50 [x]) a ∧ (fun l => l = []) r) r)
theorem opensRadarOrder : OpAll Try.prog [49, 50] goodsRadarOrder := (opAll_cons (opA_agg Try.underlying49 opens49) (opAll_cons (opA_one (fun _ h => by rw [Try.underlying50] at h; cases h) (fun _ _ h => by rw [Try.underlying50] at h; cases h) opens50) opAll_nil))
def goodsRadarAlone : List CA → Prop := (fun l => ∃ a r, l = a :: r ∧ (fun a => ∃ l, a = .agg l ∧ l.length = 5 ∧ good49 l) a ∧ (fun l => ∃ a r, l = a :: r ∧ (fun a => ∃ x, a = .one x ∧ isS [x]) a ∧ (fun l => ∃ a r, l = a :: r ∧ (fun a => ∃ x, a = .one x ∧ good58 [x]) a ∧ (fun l => l = []) r) r) r)
theorem opensRadarAlone : OpAll Try.prog [49, 9, 58] goodsRadarAlone := (opAll_cons (opA_agg Try.underlying49 opens49) (opAll_cons (opA_one (fun _ h => by rw [Try.underlying9] at h; cases h) (fun _ _ h => by rw [Try.underlying9] at h; cases h) (opens_string Try.underlying9)) (opAll_cons (opA_one (fun _ h => by rw [Try.underlying58] at h; cases h) (fun _ _ h => by rw [Try.underlying58] at h; cases h) opens58) opAll_nil)))
def goodsRadarTurns : List CA → Prop := (fun l => ∃ a r, l = a :: r ∧ (fun a => ∃ l, a = .agg l ∧ l.length = 5 ∧ good28 l) a ∧ (fun l => ∃ a r, l = a :: r ∧ (fun a => ∃ x, a = .one x ∧ isS [x]) a ∧ (fun l => ∃ a r, l = a :: r ∧ (fun a => ∃ x, a = .one x ∧ isI .i64 [x]) a ∧ (fun l => ∃ a r, l = a :: r ∧ (fun a => ∃ x, a = .one x ∧ isI .i64 [x]) a ∧ (fun l => l = []) r) r) r) r)
theorem opensRadarTurns : OpAll Try.prog [28, 9, 3, 3] goodsRadarTurns := (opAll_cons (opA_agg Try.underlying28 opens28) (opAll_cons (opA_one (fun _ h => by rw [Try.underlying9] at h; cases h) (fun _ _ h => by rw [Try.underlying9] at h; cases h) (opens_string Try.underlying9)) (opAll_cons (opA_one (fun _ h => by rw [Try.underlying3] at h; cases h) (fun _ _ h => by rw [Try.underlying3] at h; cases h) (opens_int Try.underlying3)) (opAll_cons (opA_one (fun _ h => by rw [Try.underlying3] at h; cases h) (fun _ _ h => by rw [Try.underlying3] at h; cases h) (opens_int Try.underlying3)) opAll_nil))))
def goodsRadarCounts : List CA → Prop := (fun l => ∃ a r, l = a :: r ∧ (fun a => ∃ l, a = .agg l ∧ l.length = 5 ∧ good49 l) a ∧ (fun l => ∃ a r, l = a :: r ∧ (fun a => ∃ x, a = .one x ∧ good50 [x]) a ∧ (fun l => l = []) r) r)
theorem opensRadarCounts : OpAll Try.prog [49, 50] goodsRadarCounts := (opAll_cons (opA_agg Try.underlying49 opens49) (opAll_cons (opA_one (fun _ h => by rw [Try.underlying50] at h; cases h) (fun _ _ h => by rw [Try.underlying50] at h; cases h) opens50) opAll_nil))
def goodsRadarNews : List CA → Prop := (fun l => ∃ a r, l = a :: r ∧ (fun a => ∃ x, a = .one x ∧ isI .u64 [x]) a ∧ (fun l => ∃ a r, l = a :: r ∧ (fun a => ∃ x, a = .one x ∧ isI .i64 [x]) a ∧ (fun l => ∃ a r, l = a :: r ∧ (fun a => ∃ x, a = .one x ∧ isI .i64 [x]) a ∧ (fun l => ∃ a r, l = a :: r ∧ (fun a => ∃ x, a = .one x ∧ isI .i64 [x]) a ∧ (fun l => ∃ a r, l = a :: r ∧ (fun a => ∃ x, a = .one x ∧ isI .i64 [x]) a ∧ (fun l => l = []) r) r) r) r) r)
theorem opensRadarNews : OpAll Try.prog [22, 3, 3, 3, 3] goodsRadarNews := (opAll_cons (opA_one (fun _ h => by rw [Try.underlying22] at h; cases h) (fun _ _ h => by rw [Try.underlying22] at h; cases h) (opens_int Try.underlying22)) (opAll_cons (opA_one (fun _ h => by rw [Try.underlying3] at h; cases h) (fun _ _ h => by rw [Try.underlying3] at h; cases h) (opens_int Try.underlying3)) (opAll_cons (opA_one (fun _ h => by rw [Try.underlying3] at h; cases h) (fun _ _ h => by rw [Try.underlying3] at h; cases h) (opens_int Try.underlying3)) (opAll_cons (opA_one (fun _ h => by rw [Try.underlying3] at h; cases h) (fun _ _ h => by rw [Try.underlying3] at h; cases h) (opens_int Try.underlying3)) (opAll_cons (opA_one (fun _ h => by rw [Try.underlying3] at h; cases h) (fun _ _ h => by rw [Try.underlying3] at h; cases h) (opens_int Try.underlying3)) opAll_nil)))))
end Go.Proofs.YthhbkihhllflfaaF
end

section
/-
  DERIVED: THE SHELF's CONTRACTS AT THIS DUMP, IN PLAIN WORDS (tools/lay-plain.mjs out of 'YthhbkihhllflfaaShelfSrc.lean', which tools/lay-shelf.mjs wrote): THE SAME DECLARATIONS UNDER THE SAME NAMES: 'import', 'namespace', 'open', 'def', 'theorem' AND NOTHING ELSE: no command of the shelf's: FOR A HAND-IN. Each laying: the table of numbers ('.._ren') and one theorem, a field a fact of the dump's own or the kernel's comparison; each contract: ONE APPLICATION.
-/
namespace Go.Proofs
open Go.Shelf
def Try.lays190_ren : Go.Shelf.Ren := ⟨fun | 190 => 37 | 125 => 67 | 258 => 66 | 128 => 92 | 129 => 93 | 302 => 83 | 303 => 84 | 304 => 85 | 305 => 86 | 306 => 87 | 307 => 88 | 308 => 89 | 309 => 90 | 310 => 91 | 333 => 100 | 329 => 101 | 330 => 102 | 334 => 103 | 335 => 104 | 336 => 105 | 344 => 106 | n => n, fun | 31 => 29 | 9 => 9 | 3 => 3 | 46 => 110 | 0 => 0 | 51 => 131 | 53 => 22 | 4 => 4 | 183 => 123 | 182 => 122 | 131 => 128 | 5 => 5 | 218 => 140 | 222 => 144 | 228 => 147 | 229 => 148 | n => n, fun | n => n⟩
theorem Try.lays190 : Go.Proofs.Lays.n190 Try.prog Try.lays190_ren := {
  mixed := by kernel_rfl
  f125 := Try.func67.trans (congrArg some (by kernel_rfl))
  f128 := Try.func92.trans (congrArg some (by kernel_rfl))
  f129 := Try.func93.trans (congrArg some (by kernel_rfl))
  f190 := Try.func37.trans (congrArg some (by kernel_rfl))
  f258 := Try.func66.trans (congrArg some (by kernel_rfl))
  f302 := Try.func83.trans (congrArg some (by kernel_rfl))
  f303 := Try.func84.trans (congrArg some (by kernel_rfl))
  f304 := Try.func85.trans (congrArg some (by kernel_rfl))
  f305 := Try.func86.trans (congrArg some (by kernel_rfl))
  f306 := Try.func87.trans (congrArg some (by kernel_rfl))
  f307 := Try.func88.trans (congrArg some (by kernel_rfl))
  f308 := Try.func89.trans (congrArg some (by kernel_rfl))
  f309 := Try.func90.trans (congrArg some (by kernel_rfl))
  f310 := Try.func91.trans (congrArg some (by kernel_rfl))
  f329 := Try.func101.trans (congrArg some (by kernel_rfl))
  f330 := Try.func102.trans (congrArg some (by kernel_rfl))
  f333 := Try.func100.trans (congrArg some (by kernel_rfl))
  f334 := Try.func103.trans (congrArg some (by kernel_rfl))
  f335 := Try.func104.trans (congrArg some (by kernel_rfl))
  f336 := Try.func105.trans (congrArg some (by kernel_rfl))
  f344 := Try.func106.trans (congrArg some (by kernel_rfl))
  t0 := Try.underlying0
  a0 := Try.isAgg0
  z0 := Try.sizeOf0
  v0 := Try.zeroValue0
  t3 := Try.underlying3
  a3 := Try.isAgg3
  z3 := Try.sizeOf3
  v3 := Try.zeroValue3
  t4 := Try.underlying4
  a4 := Try.isAgg4
  z4 := Try.sizeOf4
  v4 := Try.zeroValue4
  t5 := Try.underlying5
  a5 := Try.isAgg5
  z5 := Try.sizeOf5
  v5 := Try.zeroValue5
  t9 := Try.underlying9
  a9 := Try.isAgg9
  z9 := Try.sizeOf9
  v9 := Try.zeroValue9
  t31 := Try.underlying29
  a31 := Try.isAgg29
  z31 := Try.sizeOf29
  v31 := Try.zeroValue29
  t46 := Try.underlying110
  a46 := Try.isAgg110
  z46 := Try.sizeOf110
  v46 := Try.zeroValue110
  t51 := Try.underlying131
  a51 := Try.isAgg131
  z51 := Try.sizeOf131
  v51 := Try.zeroValue131
  t53 := Try.underlying22
  a53 := Try.isAgg22
  z53 := Try.sizeOf22
  v53 := Try.zeroValue22
  t131 := Try.underlying128
  a131 := Try.isAgg128
  z131 := Try.sizeOf128
  v131 := Try.zeroValue128
  t182 := Try.underlying122
  a182 := Try.isAgg122
  z182 := Try.sizeOf122
  v182 := Try.zeroValue122
  t183 := Try.underlying123
  a183 := Try.isAgg123
  z183 := Try.sizeOf123
  v183 := Try.zeroValue123
  t218 := Try.underlying140
  a218 := Try.isAgg140
  z218 := Try.sizeOf140
  v218 := Try.zeroValue140
  t222 := Try.underlying144
  a222 := Try.isAgg144
  z222 := Try.sizeOf144
  v222 := Try.zeroValue144
  t228 := Try.underlying147
  a228 := Try.isAgg147
  z228 := Try.sizeOf147
  v228 := Try.zeroValue147
  t229 := Try.underlying148
  a229 := Try.isAgg148
  z229 := Try.sizeOf148
  v229 := Try.zeroValue148 }
open Go.Sort Go.RowKit in
theorem Try.slices_Sort_string (blk off cap : Nat) (ss : List (List UInt8)) (w : World) (hH : Holds encStr w blk off ss.toArray) (hblk : blk < w.heap.size) (hsz : ss.length < 4611686018427387904) :
    Calls Try.prog 37 #[.slice (some ⟨blk, off, none⟩) ss.length cap] w fun e w' =>
      e = .returned (.tuple #[]) ∧ ∃ n os, w' = grow (putRow encStr (Sort.ahead w n) blk off (ss.mergeSort fun x y => decide (x ≤ y)).toArray) os := Any.slices_Sort_string Try.lays190 blk off cap ss w hH hblk hsz
open Go.RowKit Go.Sort in
/-- .. and plain. (LAID: no walk: one application.) -/
theorem Try.slices_Sort_string_none (p : Option Addr) (cap : Nat) (w : World) :
    Calls Try.prog 37 #[.slice p 0 cap] w fun e w' => e = .returned (.tuple #[]) ∧ w' = w := Any.slices_Sort_string_none Try.lays190 p cap w
end Go.Proofs
end

section
/- The whole table tells the truth of the program. -/
namespace Go.Proofs.YthhbkihhllflfaaF
open Go Go.Proofs.Vm
theorem fnOkS : FnOk Try.prog 37 := ⟨Try.f37, Try.func37, by kernel_rfl, by kernel_rfl⟩
theorem sortsS : SortsStr Try.prog 37 := fun blk off cap zs w h1 h2 h3 => by
  have h := Try.slices_Sort_string blk off cap (zs.map (·.data.toList)) w h1 h2 (by rw [List.length_map]; exact h3)
  rw [List.length_map] at h
  rw [ssort, List.map_mergeSort (s := fun x y : List UInt8 => decide (x ≤ y)) (fun a _ b _ => rfl)]
  exact h
theorem tvOk : TOk Try.prog TV := TT_ok mixed (strTab_ok fnOkS sortsS (fun p cap w => Try.slices_Sort_string_none p cap w))
end Go.Proofs.YthhbkihhllflfaaF
end

section
/- What the library tells of items sorted by a function, and of strings compared. -/
namespace Go.Proofs.Vm
open Go

variable {P : Program}

abbrev Itm := ByteArray × Int
def encI (x : Itm) : List Value := [.string x.1, .int .i64 x.2]
def cItm (x : Itm) : List CV := [.v (.string x.1), .v (.int .i64 x.2)]
def itmOf : List CV → Option Itm
  | [.v (.string s), .v (.int .i64 n)] => some (s, n)
  | _ => none
def isort (cf : Itm → Itm → Int) (l : List Itm) : List Itm := l.mergeSort fun x y => decide (cf x y ≤ 0)

theorem mapO_itm : ∀ xs : List Itm, mapO itmOf (xs.map cItm) = some xs
  | [] => rfl
  | x :: xs => by
    rw [List.map_cons]
    simp only [mapO, mapO_itm xs]
    rfl
theorem mapO_itm_inv : ∀ {l : List (List CV)} {xs : List Itm}, mapO itmOf l = some xs → l = xs.map cItm
  | [], xs, h => by cases h; rfl
  | e :: l, xs, h => by
    simp only [mapO] at h
    split at h
    · rename_i y m h1 h2
      cases h
      rw [List.map_cons, mapO_itm_inv h2]
      congr 1
      unfold itmOf at h1
      split at h1
      · cases h1; rfl
      · cases h1
    · cases h

def sortFRun (go : FuncId) (cf : Itm → Itm → Int) (args : List AV) (H : Hp) : Option (AV × Hp) :=
  match args with
  | [.one (.sl id 0 n tot), .one (.fn g [])] => if g = go then match H[id]? with
    | some (.clo l false) => match mapO itmOf l with
      | some xs => if n = tot ∧ l.length = tot ∧ tot < 4611686018427387904 then some (und, H.set id (.clo ((isort cf xs).map cItm) false)) else none
      | none => none
    | _ => none
    else none
  | _ => none

def cmpB (a b : ByteArray) : Int := Lib.compareBytes a.data.toList b.data.toList
def cmpRun (args : List CA) : Option CA :=
  match args with
  | [.one (.v (.string a)), .one (.v (.string b))] => some (cI .i64 (cmpB a b))
  | _ => none

/-- A clone of an own slice of none, whether it is nil or not. -/
def clone0Run (args : List AV) (H : Hp) : Option (AV × Hp) :=
  match args with
  | [.one (.sl id 0 0 0)] => if lenIs H id 0 = true then some (.one (.sl (H.length + 1) 0 0 0), H ++ [.clo [] false, .clo [] false]) else none
  | _ => none
def itmTab (gs go gc gl : FuncId) (cf : Itm → Itm → Int) : Tab := ⟨fun f args => if f = gc then cmpRun args else none, fun f args H => if f = gs then sortFRun go cf args H else if f = gl then clone0Run args H else none⟩
/-- The same of a function's slices of none as they are. -/
def Clone0 (P : Program) (gl : FuncId) : Prop := ∀ (ad : Option Addr) (cap : Nat) (H : Hp), SCtr P gl [.one (.c (.v (.slice ad 0 cap)))] H (.one (.sl (H.length + 1) 0 0 0)) (H ++ [.clo [] false, .clo [] false])

def SortsF (P : Program) (gs go : FuncId) (cf : Itm → Itm → Int) : Prop := ∀ (blk off cap : Nat) (d : List Itm) (w : World), Sort.HoldsK encI 2 w blk off d.toArray → blk < w.heap.size → d.length < 4611686018427387904 →
  Calls P gs #[.slice (some ⟨blk, off, none⟩) d.length cap, .func (.func go) #[] #[]] w fun e w' => e = .returned (.tuple #[]) ∧ ∃ n os, w' = sortWorldK encI 2 w blk off n (isort cf d).toArray os
def SortsF0 (P : Program) (gs go : FuncId) : Prop := ∀ (p : Option Addr) (cap : Nat) (w : World), Calls P gs #[.slice p 0 cap, .func (.func go) #[] #[]] w fun e w' => e = .returned (.tuple #[]) ∧ w' = w
def CmpS (P : Program) (gc : FuncId) : Prop := ∀ (a b : ByteArray) (w : World), Calls P gc #[.string a, .string b] w fun e w' => e = .returned (.int .i64 (cmpB a b)) ∧ w' = w

def cmpTab (gc : FuncId) : Tab := ⟨fun f args => if f = gc then cmpRun args else none, fun _ _ _ => none⟩
theorem cmpPu_ok {gc : FuncId} (hfc : FnOk P gc) (hc : CmpS P gc) : PuOk P (cmpTab gc) := by
  intro f args r h
  simp only [cmpTab] at h
  split at h
  case isFalse => cases h
  rename_i hfg
  subst hfg
  unfold cmpRun at h
  split at h
  case h_2 => cases h
  rename_i a b
  cases h
  refine ⟨hfc, fun I w vals hI hv => ?_⟩
  have hl : vals.length = 2 := by rw [← hv.1]; rfl
  match vals, hl with
  | [x, y], _ =>
  have hx : RK I w (.one (.v (.string a))) x := hv.2 0 _ _ rfl rfl
  have hy : RK I w (.one (.v (.string b))) y := hv.2 1 _ _ rfl rfl
  have ex : x = .string a := by cases hx; rfl
  have ey : y = .string b := by cases hy; rfl
  subst ex; subst ey
  refine (hc a b w).mono fun e w' hh => ?_
  obtain ⟨rfl, rfl⟩ := hh
  exact ⟨_, I, rfl, fun _ h => h, fun _ h => .inl h, hI, Nat.le_refl _, fun _ _ => rfl, .refl _, .v _ rfl⟩
theorem cmpTab_ok {gc : FuncId} (hfc : FnOk P gc) (hc : CmpS P gc) : TOk P (cmpTab gc) := ⟨cmpPu_ok hfc hc, fun f args H r H' h => (by cases h)⟩

theorem flat_get (d : List Itm) (i j : Nat) (hi : i < d.length) (hj : j < 2) : (Sort.flatK encI 2 d.toArray)[i * 2 + j]! = (encI d[i])[j]'(by simpa [encI] using hj) := by
  rw [Sort.get_flatK _ _ _ _ (by simp; omega), show (i * 2 + j) / 2 = i by omega, show (i * 2 + j) % 2 = j by omega]
  have : d.toArray[i]! = d[i] := by simp [hi]
  rw [this, getElem!_pos (encI d[i]) j (by simpa [encI] using hj)]

theorem itmTab_ok {gs go gc gl : FuncId} {cf : Itm → Itm → Int} (hfc : FnOk P gc) (hc : CmpS P gc) (hf : FnOk P gs) (h1 : SortsF P gs go cf) (h2 : SortsF0 P gs go) (hfl : FnOk P gl) (h3 : Clone0 P gl) : TOk P (itmTab gs go gc gl cf) := by
  refine ⟨fun f args r h => cmpPu_ok hfc hc f args r h, fun f args H r H' h => ?_⟩
  simp only [itmTab] at h
  split at h
  case isFalse =>
    split at h
    case isFalse => cases h
    rename_i hfg
    subst hfg
    unfold clone0Run at h
    split at h
    case h_2 => cases h
    rename_i id
    split at h
    case isFalse => cases h
    rename_i hlen
    cases h
    refine ⟨by simp, hfl, ?_⟩
    intro X S M hX hD vals hv
    subst hX
    have hv1 : vals.length = 1 := by rw [← hv.1]; rfl
    match vals, hv1 with
    | [v], _ =>
    have hr : RCell X (.sl id 0 0 0) v := hv.2 0 _ v rfl rfl
    obtain ⟨h1', hd, e0, he0, _, _, hp⟩ := hr
    have hl0 : e0.len = 0 := by
      unfold lenIs at hlen
      rw [he0] at hlen
      simpa using hlen
    obtain ⟨ad, cap, rfl, _⟩ := hp hl0
    exact h3 ad cap X.H X S M rfl hD _ ⟨rfl, fun j p y hj hy => by
      cases j with
      | zero =>
        cases hj; cases hy
        exact .v _ h1'
      | succ j => cases hj⟩
  rename_i hfg
  subst hfg
  unfold sortFRun at h
  split at h
  case h_2 => cases h
  rename_i id n tot g
  split at h
  case isFalse => cases h
  rename_i hgg
  subst hgg
  split at h
  case h_2 => cases h
  rename_i l hl
  split at h
  case h_2 => cases h
  rename_i xs hxs
  split at h
  case isFalse => cases h
  rename_i hcc
  obtain ⟨rfl, hlt, hsz⟩ := hcc
  cases h
  have hlx := mapO_itm_inv hxs
  have hxl : xs.length = n := by rw [← hlt, hlx, List.length_map]
  refine ⟨by simp, hf, ?_⟩
  intro X S M hX hD vals hv
  subst hX
  have hv1 : vals.length = 2 := by rw [← hv.1]; rfl
  match vals, hv1 with
  | [v, fv], _ =>
  have hr : RCell X (.sl id 0 n n) v := hv.2 0 _ v rfl rfl
  have hfv : RCell X (.fn g []) fv := hv.2 1 _ fv rfl rfl
  obtain ⟨vs, rfl, hvs, _⟩ := hfv
  have hvs0 : vs = [] := List.length_eq_zero_iff.1 hvs.symm
  subst hvs0
  obtain ⟨_, hd, e0, he0, _, _, hp⟩ := hr
  rw [hl] at he0
  cases he0
  obtain ⟨ad, cap, rfl, hcap, hne, _⟩ := hp hlt
  have hent := S.ent _ _ hd hl
  have hlen' : (isort cf xs).length = xs.length := List.length_mergeSort _
  have hylen : ((isort cf xs).map cItm).length = l.length := by rw [List.length_map, hlen', hlx, List.length_map]
  by_cases h0 : n = 0
  · subst h0
    have hxe : xs = [] := List.length_eq_zero_iff.1 hxl
    subst hxe
    refine (h2 ad cap X.w).mono fun e w' hh => ?_
    obtain ⟨rfl, rfl⟩ := hh
    refine ⟨_, X, rfl, rfl, .refl S M, ?_, fun id => by rw [hD]; simp, ⟨[], rfl, rfl, fun j p y hp => by simp at hp⟩⟩
    rw [isort, List.mergeSort_nil]
    simp only [List.map_nil] at hlx ⊢
    rw [hlx] at hl
    exact (set_same hl).symm
  · obtain ⟨b, hb, rfl⟩ := hne h0
    rcases hent.2 with ⟨h3, _⟩ | ⟨b', c, ty, fr, g1, g2, g3, g4, g5, g6, g7, g8, g9, g10⟩
    · exact absurd (hlt.symm.trans h3) h0
    rw [hb] at g1
    cases g1
    have hsz1 : (X.σ id).sz = 2 := by
      cases l with
      | nil => exact absurd hlt.symm h0
      | cons e l =>
        have := hent.1 e List.mem_cons_self
        cases xs with
        | nil => simp at hlx
        | cons x xs =>
          rw [List.map_cons] at hlx
          cases hlx
          exact this.symm
    rw [hsz1] at g5 g10
    have hblk := S.blk M id b hd hb
    have hcell : ∀ i j, ∀ hi : i < xs.length, ∀ hj : j < 2, c[i * 2 + j]? = some ((encI xs[i])[j]'(by simpa [encI] using hj)) := by
      intro i j hi hj
      obtain ⟨v, h3, e, x, h4, h5, h6⟩ := g10 i j (by omega) hj
      rw [hlx, List.getElem?_map, List.getElem?_eq_getElem hi] at h4
      cases h4
      rw [h3]
      match j, hj with
      | 0, _ => cases h5; cases h6; rfl
      | 1, _ => cases h5; cases h6; rfl
    have hH : Sort.HoldsK encI 2 X.w b 0 xs.toArray := by
      intro j hj
      have hj : j < xs.length * 2 := by simpa using hj
      have hc1 := hcell (j / 2) (j % 2) (by omega) (by omega)
      have hf1 := flat_get xs (j / 2) (j % 2) (by omega) (by omega)
      rw [show j / 2 * 2 + j % 2 = j by omega] at hc1 hf1
      refine ⟨?_, g4 _ ?_⟩
      · unfold World.cell?
        simp only [g3]
        rw [if_neg (by simp), Nat.zero_add, hc1, hf1]
        rfl
      · have := (Array.getElem?_eq_some_iff.1 hc1).1
        omega
    rw [Nat.zero_mul, ← hxl]
    refine (h1 b 0 cap xs X.w hH hblk.1 (by omega)).mono fun e w' hh => ?_
    obtain ⟨rfl, m, os, rfl⟩ := hh
    generalize hys : isort cf xs = ys at hlen' hylen
    let F := Sort.flatK encI 2 ys.toArray
    have hFs : F.size = ys.length * 2 := by simp [F]
    let w' := sortWorldK encI 2 X.w b 0 m ys.toArray os
    have hms : (X.w.heap.modify b (Sort.onCells (Sort.putCells _root_.id 0 F))).size = X.w.heap.size := by simp
    have hheap : ∀ k, k < X.w.heap.size → w'.heap[k]? = (X.w.heap.modify b (Sort.onCells (Sort.putCells _root_.id 0 F)))[k]? := by
      intro k hk
      show (X.w.heap.modify b _ ++ os)[k]? = _
      rw [Array.getElem?_append_left (by simpa using hk)]
    have hself : w'.heap[b]? = some (.cells (Sort.putCells _root_.id 0 F c) ty fr) := by
      rw [hheap b hblk.1, Array.getElem?_modify, if_pos rfl, g3]
      rfl
    have hoth : ∀ k, k < X.w.heap.size → k ≠ b → w'.heap[k]? = X.w.heap[k]? := by
      intro k hk hkb
      rw [hheap k hk, Array.getElem?_modify, if_neg (fun e => hkb e.symm)]
    let Y : Cx := { X with H := X.H.set id (.clo (ys.map cItm) false), w := w' }
    have W : Wrote X Y id := ⟨rfl, rfl, fun _ => Iff.rfl, fun _ _ _ => rfl, rfl, fun i hi => set_get hi, by
      show X.w.heap.size ≤ (X.w.heap.modify b _ ++ os).size
      rw [Array.size_append, Array.size_modify]
      exact Nat.le_add_right _ _, fun k hk hkb => hoth k hk (hkb b hb), ⟨_, _, hl, set_self hl, by simp only [Ent.len]; omega, fun _ => rfl, fun l h => by cases h⟩, hd, ⟨⟨rfl, rfl⟩, rfl, Nat.le_add_right _ _⟩, fun k hk => by rw [hb] at hk; cases hk; exact g9 rfl⟩
    have SY : SR Y := W.sr S M (fun e h => by
      have : Y.H[id]? = some (.clo (ys.map cItm) false) := set_self hl
      rw [this] at h
      cases h
      refine ⟨fun e he => ?_, .inr ⟨b, _, ty, fr, hb, g2, hself, fun o ho => ?_, ?_, by rw [hylen]; exact g6, g7, (fun h => by cases h), g9, fun i j hi hj => ?_⟩⟩
      · obtain ⟨y, _, rfl⟩ := List.mem_map.1 he
        show 2 = (X.σ id).sz
        rw [hsz1]
      · have := g4 o (by simpa [Sort.putCells] using ho)
        unfold World.frozen? at this ⊢
        rw [g3] at this
        rw [hself]
        exact this
      · show (Sort.putCells _root_.id 0 F c).size = (X.σ id).cap * (X.σ id).sz
        rw [hsz1, ← g5]
        simp [Sort.putCells]
      · have hj : j < (X.σ id).sz := hj
        rw [hsz1] at hj
        have hi' : i < ys.length := by simpa using hi
        have hic : i * 2 + j < c.size := by rw [g5]; have := g6.2; rw [hylen] at hi; omega
        have hfg := flat_get ys i j hi' hj
        refine ⟨(encI ys[i])[j]'(by simpa [encI] using hj), ?_, cItm ys[i], .v ((encI ys[i])[j]'(by simpa [encI] using hj)), by rw [List.getElem?_map, List.getElem?_eq_getElem hi']; rfl, ?_, ?_⟩
        · show (Sort.putCells _root_.id 0 F c)[i * (X.σ id).sz + j]? = _
          rw [hsz1, Sort.putCells, Array.getElem?_mapIdx, Array.getElem?_eq_getElem hic, Option.map_some, if_pos ⟨Nat.zero_le _, by rw [hFs]; omega⟩]
          show some (_root_.id F[i * 2 + j - 0]!) = _
          rw [Nat.sub_zero, hfg]
          rfl
        · match j, hj with
          | 0, _ => rfl
          | 1, _ => rfl
        · match j, hj with
          | 0, _ => exact .v _ rfl
          | 1, _ => exact .v _ rfl) (fun b' h => .inl h)
    exact ⟨_, Y, rfl, rfl, W.nxt S M SY, rfl, fun id => by rw [show Y.D = X.D from rfl, hD]; simp, ⟨[], rfl, rfl, fun j p y hp => by simp at hp⟩⟩

end Go.Proofs.Vm
end

section
/- How items stand: the greater count first, of one count the lesser key. -/
namespace Go.Proofs.Vm
open Go

def cmpI (x y : Int) : Int := if x < y then -1 else if x > y then 1 else 0
def ordI (a b : Itm) : Int := if cmpI b.2 a.2 ≠ 0 then cmpI b.2 a.2 else cmpB a.1 b.1

theorem cb_eq : ∀ a b : List UInt8, Lib.compareBytes a b = 0 ↔ a = b
  | [], [] => by simp [Lib.compareBytes]
  | [], _ :: _ => by simp [Lib.compareBytes]
  | _ :: _, [] => by simp [Lib.compareBytes]
  | a :: ar, b :: br => by
    unfold Lib.compareBytes
    by_cases h1 : a < b
    · rw [if_pos h1]
      refine ⟨fun h => absurd h (by decide), fun h => ?_⟩
      cases h
      exact absurd h1 (UInt8.lt_irrefl _)
    · rw [if_neg h1]
      by_cases h2 : b < a
      · rw [if_pos h2]
        refine ⟨fun h => absurd h (by decide), fun h => ?_⟩
        cases h
        exact absurd h2 (UInt8.lt_irrefl _)
      · rw [if_neg h2, cb_eq ar br]
        have : a = b := UInt8.le_antisymm (UInt8.not_lt.1 h2) (UInt8.not_lt.1 h1)
        subst this
        simp
theorem cb_neg : ∀ a b : List UInt8, Lib.compareBytes b a = - Lib.compareBytes a b
  | [], [] => by simp [Lib.compareBytes]
  | [], _ :: _ => by simp [Lib.compareBytes]
  | _ :: _, [] => by simp [Lib.compareBytes]
  | a :: ar, b :: br => by
    unfold Lib.compareBytes
    by_cases h1 : a < b
    · rw [if_neg (UInt8.lt_asymm h1), if_pos h1, if_pos h1]; rfl
    · rw [if_neg h1, if_neg h1]
      by_cases h2 : b < a
      · rw [if_pos h2, if_pos h2]
      · rw [if_neg h2, if_neg h2]
        exact cb_neg ar br
theorem cb_trans : ∀ a b c : List UInt8, Lib.compareBytes a b < 0 → Lib.compareBytes b c < 0 → Lib.compareBytes a c < 0
  | [], _, [], h1, h2 => by
    rename_i b
    cases b with
    | nil => simp [Lib.compareBytes] at h1
    | cons x b => simp [Lib.compareBytes] at h2
  | [], _, _ :: _, _, _ => by simp [Lib.compareBytes]
  | _ :: _, [], _, h1, _ => by simp [Lib.compareBytes] at h1
  | _ :: _, _ :: _, [], _, h2 => by simp [Lib.compareBytes] at h2
  | a :: ar, b :: br, c :: cr, h1, h2 => by
    unfold Lib.compareBytes at h1 h2 ⊢
    by_cases a1 : a < b
    · by_cases b1 : b < c
      · rw [if_pos (UInt8.lt_trans a1 b1)]; decide
      · rw [if_neg b1] at h2
        by_cases b2 : c < b
        · rw [if_pos b2] at h2; exact absurd h2 (by decide)
        · have : b = c := UInt8.le_antisymm (UInt8.not_lt.1 b2) (UInt8.not_lt.1 b1)
          subst this
          rw [if_pos a1]; decide
    · rw [if_neg a1] at h1
      by_cases a2 : b < a
      · rw [if_pos a2] at h1; exact absurd h1 (by decide)
      · have : a = b := UInt8.le_antisymm (UInt8.not_lt.1 a2) (UInt8.not_lt.1 a1)
        subst this
        rw [if_neg (UInt8.lt_irrefl _)] at h1
        by_cases b1 : a < c
        · rw [if_pos b1]; decide
        · rw [if_neg b1] at h2 ⊢
          by_cases b2 : c < a
          · rw [if_pos b2] at h2; exact absurd h2 (by decide)
          · rw [if_neg b2] at h2 ⊢
            exact cb_trans ar br cr (by simpa using h1) h2

theorem cmpB_eq {a b : ByteArray} : cmpB a b = 0 ↔ a = b := by
  unfold cmpB
  rw [cb_eq]
  constructor
  · intro h
    have := Array.toList_inj.1 h
    cases a; cases b; simp_all
  · intro h; rw [h]
theorem cmpB_neg (a b : ByteArray) : cmpB b a = - cmpB a b := cb_neg _ _
theorem cmpI_neg (x y : Int) : cmpI y x = - cmpI x y := by
  unfold cmpI; split <;> split <;> (try split) <;> omega
theorem ordI_neg (a b : Itm) : ordI b a = - ordI a b := by
  unfold ordI
  rw [cmpI_neg b.2 a.2, cmpB_neg a.1 b.1]
  split <;> split <;> omega
theorem ordI_eq {a b : Itm} : ordI a b = 0 ↔ a = b := by
  unfold ordI
  constructor
  · intro h
    split at h
    · contradiction
    · rename_i h1
      have h2 : cmpI b.2 a.2 = 0 := by omega
      have h3 : b.2 = a.2 := by unfold cmpI at h2; split at h2; · omega
                                split at h2 <;> omega
      exact Prod.ext (cmpB_eq.1 h) h3.symm
  · intro h
    subst h
    have : cmpI a.2 a.2 = 0 := by unfold cmpI; rw [if_neg (by omega), if_neg (by omega)]
    rw [this]
    simp only [ne_eq, not_true_eq_false, if_false]
    exact cmpB_eq.2 rfl
/-- One stands ahead of another. -/
theorem ordI_lt {a b : Itm} : ordI a b < 0 ↔ b.2 < a.2 ∨ b.2 = a.2 ∧ cmpB a.1 b.1 < 0 := by
  unfold ordI cmpI
  by_cases h1 : b.2 < a.2
  · simp [h1]
  · by_cases h2 : b.2 > a.2
    · rw [if_neg h1, if_pos h2]
      simp; omega
    · rw [if_neg h1, if_neg h2]
      have : b.2 = a.2 := by omega
      simp [this]
theorem ordI_trans {a b c : Itm} (h1 : ordI a b < 0) (h2 : ordI b c < 0) : ordI a c < 0 := by
  rw [ordI_lt] at *
  rcases h1 with h1 | ⟨h1, k1⟩
  · rcases h2 with h2 | ⟨h2, _⟩
    · left; omega
    · left; omega
  · rcases h2 with h2 | ⟨h2, k2⟩
    · left; omega
    · right
      exact ⟨by omega, cb_trans _ _ _ k1 k2⟩
theorem ordI_le_trans (a b c : Itm) (h1 : ordI a b ≤ 0) (h2 : ordI b c ≤ 0) : ordI a c ≤ 0 := by
  by_cases e1 : ordI a b = 0
  · rw [ordI_eq] at e1; subst e1; exact h2
  · by_cases e2 : ordI b c = 0
    · rw [ordI_eq] at e2; subst e2; exact h1
    · have := ordI_trans (show ordI a b < 0 by omega) (show ordI b c < 0 by omega)
      omega
theorem ordI_total (a b : Itm) : ordI a b ≤ 0 ∨ ordI b a ≤ 0 := by
  have := ordI_neg a b
  omega

theorem bl_cb : ∀ a b : List UInt8, Op.bytesLess a b = decide (Lib.compareBytes a b < 0)
  | [], [] => by simp [Op.bytesLess, Lib.compareBytes]
  | _ :: _, [] => by simp [Op.bytesLess, Lib.compareBytes]
  | [], _ :: _ => by simp [Op.bytesLess, Lib.compareBytes]
  | a :: x, b :: y => by
    unfold Op.bytesLess Lib.compareBytes
    by_cases h1 : a < b
    · simp [h1]
    · by_cases h2 : b < a
      · have : ¬ a = b := fun e => by subst e; exact absurd h2 (UInt8.lt_irrefl _)
        simp [h1, h2, this]
      · have : a = b := UInt8.le_antisymm (UInt8.not_lt.1 h2) (UInt8.not_lt.1 h1)
        subst this
        simp [h1, bl_cb x y]
theorem bl_cmpB (a b : ByteArray) : Op.bytesLess a.toList b.toList = decide (cmpB a b < 0) := by
  rw [bl_cb, toList_eq, toList_eq]; rfl

end Go.Proofs.Vm
end

section
/- Maps from strings to numbers, with their stamps, told as they are used. -/
namespace Go.Proofs.Vm
open Go

variable {P : Program}

/-! Maps from strings to numbers. -/
def mget (k : ByteArray) : SM → Option Int
  | [] => none
  | p :: r => if k = p.1 then some p.2 else mget k r
def mput (k : ByteArray) (v : Int) (m : SM) : SM := match mIx k m with
  | some j => m.set j (k, v)
  | none => m ++ [(k, v)]
def mdel (k : ByteArray) (m : SM) : SM := match mIx k m with
  | some j => m.eraseIdx j
  | none => m

/-- A map with its stamps, and the next stamp. -/
structure MS where
  m : SM
  b : List Int
  ck : Nat
structure MS.Ok (M : MS) : Prop where
  len : M.b.length = M.m.length
  nd : M.b.Nodup
  lt : ∀ x ∈ M.b, x < (M.ck : Int)
def MS.ent (M : MS) : Ent := .mp (M.ck, cM M.m M.b)
def MS.put (M : MS) (k : ByteArray) (v : Int) : MS := match mIx k M.m with
  | some _ => ⟨mput k v M.m, M.b, M.ck⟩
  | none => ⟨mput k v M.m, M.b ++ [(M.ck : Int)], M.ck + 1⟩
def MS.del (M : MS) (k : ByteArray) : MS := match mIx k M.m with
  | some j => ⟨mdel k M.m, M.b.eraseIdx j, M.ck⟩
  | none => M
def MS.stamp (M : MS) (k : ByteArray) : Int := match mIx k M.m with
  | some j => M.b[j]?.getD 0
  | none => 0
def MS.empty : MS := ⟨[], [], 0⟩
theorem MS.empty_ok : MS.empty.Ok := ⟨rfl, List.nodup_nil, fun x h => by cases h⟩
theorem MS.empty_ent : MS.empty.ent = .mp (0, []) := rfl
@[simp] theorem MS.put_m (M : MS) (k : ByteArray) (v : Int) : (M.put k v).m = mput k v M.m := by unfold MS.put; split <;> rfl
@[simp] theorem MS.del_m (M : MS) (k : ByteArray) : (M.del k).m = mdel k M.m := by
  unfold MS.del
  split
  · rfl
  · rename_i h; unfold mdel; rw [h]

theorem mIx_lt {k : ByteArray} : ∀ {m : SM} {j : Nat}, mIx k m = some j → ∃ h : j < m.length, m[j].1 = k ∧ mget k m = some m[j].2
  | [], j, h => by cases h
  | p :: r, j, h => by
    unfold mIx at h
    by_cases hk : k = p.1
    · rw [if_pos hk] at h
      cases h
      exact ⟨Nat.succ_pos _, hk.symm, by show mget k (p :: r) = some p.2; unfold mget; rw [if_pos hk]⟩
    · rw [if_neg hk] at h
      cases hr : mIx k r with
      | none => rw [hr] at h; cases h
      | some i =>
        rw [hr] at h
        cases h
        obtain ⟨h1, h2, h3⟩ := mIx_lt hr
        exact ⟨Nat.succ_lt_succ h1, h2, by unfold mget; rw [if_neg hk]; exact h3⟩
theorem mIx_no {k : ByteArray} : ∀ {m : SM}, mIx k m = none → mget k m = none
  | [], _ => rfl
  | p :: r, h => by
    unfold mIx at h
    by_cases hk : k = p.1
    · rw [if_pos hk] at h; cases h
    · rw [if_neg hk] at h
      unfold mget
      rw [if_neg hk]
      exact mIx_no (Option.map_eq_none_iff.1 h)

theorem MS.put_ok {M : MS} (h : M.Ok) (k : ByteArray) (v : Int) : (M.put k v).Ok := by
  unfold MS.put
  split
  · rename_i j hj
    exact ⟨by show M.b.length = (mput k v M.m).length; unfold mput; rw [hj]; simp [h.len], h.nd, h.lt⟩
  · rename_i hj
    refine ⟨by show (M.b ++ [(M.ck : Int)]).length = (mput k v M.m).length; unfold mput; rw [hj]; simp [h.len], ?_, ?_⟩
    · refine List.nodup_append.2 ⟨h.nd, by simp, ?_⟩
      intro x hx y hy
      have hy : y = (M.ck : Int) := by simpa using hy
      have := h.lt x hx
      omega
    · intro x hx
      show x < ((M.ck + 1 : Nat) : Int)
      rcases List.mem_append.1 hx with hx | hx
      · have := h.lt x hx; omega
      · have : x = (M.ck : Int) := by simpa using hx
        omega
theorem MS.del_ok {M : MS} (h : M.Ok) (k : ByteArray) : (M.del k).Ok := by
  unfold MS.del
  split
  · rename_i j hj
    obtain ⟨hl, _, _⟩ := mIx_lt hj
    refine ⟨?_, h.nd.sublist (List.eraseIdx_sublist _ _), fun x hx => h.lt x ((List.eraseIdx_sublist _ _).subset hx)⟩
    show (M.b.eraseIdx j).length = (mdel k M.m).length
    unfold mdel
    rw [hj]
    show (M.b.eraseIdx j).length = (M.m.eraseIdx j).length
    rw [List.length_eraseIdx, List.length_eraseIdx, h.len]
  · exact h

theorem cM_set : ∀ {m : SM} {b : List Int} {j : Nat} (k : ByteArray) (v : Int), b.length = m.length → ∀ h : j < m.length, m[j].1 = k →
    (cM m b).modify j (fun p => (.string k, .v (.int .i64 v) :: p.2.drop 1)) = cM (m.set j (k, v)) b ∧ (cM m b).modify j (fun p => (p.1, .v (.int .i64 v) :: p.2.drop 1)) = cM (m.set j (k, v)) b ∧ (cM m b).modify j (fun p => (.string k, p.2)) = cM m b
  | [], _, _, _, _, _, h, _ => by simp at h
  | p :: r, [], _, _, _, h, _, _ => by simp at h
  | p :: r, b :: bs, 0, k, v, _, _, hk => by
    have hk : p.1 = k := hk
    subst hk
    exact ⟨rfl, rfl, rfl⟩
  | p :: r, b :: bs, j + 1, k, v, hl, h, hk => by
    obtain ⟨h1, h2, h3⟩ := cM_set (m := r) (b := bs) (j := j) k v (by simpa using hl) (by simpa using h) hk
    refine ⟨?_, ?_, ?_⟩
    · show _ :: (cM r bs).modify j _ = _; rw [h1]; rfl
    · show _ :: (cM r bs).modify j _ = _; rw [h2]; rfl
    · show _ :: (cM r bs).modify j _ = _; rw [h3]; rfl
theorem cM_app : ∀ {m : SM} {b : List Int} (k : ByteArray) (v x : Int), b.length = m.length → cM m b ++ [(.string k, [.v (.int .i64 v), .v (.int .i64 x)])] = cM (m ++ [(k, v)]) (b ++ [x])
  | [], [], _, _, _, _ => rfl
  | [], b :: bs, _, _, _, h => by simp at h
  | p :: r, [], _, _, _, h => by simp at h
  | p :: r, b :: bs, k, v, x, h => by
    show _ :: (cM r bs ++ _) = _
    rw [cM_app k v x (by simpa using h)]
    rfl
theorem cM_erase : ∀ {m : SM} {b : List Int} (j : Nat), b.length = m.length → (cM m b).eraseIdx j = cM (m.eraseIdx j) (b.eraseIdx j)
  | [], [], _, _ => rfl
  | [], b :: bs, _, h => by simp at h
  | p :: r, [], _, h => by simp at h
  | p :: r, b :: bs, 0, _ => rfl
  | p :: r, b :: bs, j + 1, h => by
    show _ :: (cM r bs).eraseIdx j = _
    rw [cM_erase j (by simpa using h)]
    rfl
theorem cM_stamp : ∀ {m : SM} {b : List Int} {j : Nat} (_hl : b.length = m.length) (_ : b.Nodup) (h : j < b.length), (cM m b).findIdx? (stampIs b[j]) = some j
  | [], b, j, hl, _, h => by simp at hl; subst hl; simp at h
  | p :: r, [], j, _, _, h => by simp at h
  | p :: r, b :: bs, 0, _, _, _ => by
    show ((Value.string p.1, [CV.v (.int .i64 p.2), .v (.int .i64 b)]) :: cM r bs).findIdx? _ = _
    rw [List.findIdx?_cons, if_pos (by show (b == b) = true; simp)]
  | p :: r, b :: bs, j + 1, hl, hn, h => by
    have hj : j < bs.length := by simpa using h
    have hne : b ≠ bs[j] := fun e => (List.nodup_cons.1 hn).1 (e ▸ List.getElem_mem hj)
    show ((Value.string p.1, [CV.v (.int .i64 p.2), .v (.int .i64 b)]) :: cM r bs).findIdx? (stampIs bs[j]) = _
    rw [List.findIdx?_cons, if_neg (by show ¬ (b == bs[j]) = true; simpa using hne), cM_stamp (by simpa using hl) (List.nodup_cons.1 hn).2 hj]
    rfl

section
variable {H : Hp} {t : TypeId} {mi : Nat} {M : MS} {k : ByteArray} {v : Int}

theorem mapAt_eq (h : H[mi]? = some M.ent) : mapAt H (.one (.mp mi)) = some (mi, (M.ck, cM M.m M.b)) := by simp only [mapAt, h, MS.ent]
theorem lk_eq (ht : mapTy P t = some (.string, .int .i64 0)) (ok : M.Ok) (h : H[mi]? = some M.ent) :
    vlookup P H t (.one (.mp mi)) (.one (.c (.v (.string k)))) true = qa (.tup [(false, [.c (.v (.int .i64 ((mget k M.m).getD 0)))]), (false, [.c (.v (.bool (mget k M.m).isSome))])]) := by
  unfold vlookup
  rw [ht, mapAt_eq h]
  have sc : (AV.one (.c (.v (.string k)))).sc = some (.string k) := rfl
  have kd : kindOk .string (.string k) = true := rfl
  simp only [sc, kd, if_true]
  rw [find_cM k M.m M.b ok.len]
  cases hj : mIx k M.m with
  | none => simp only [mIx_no hj]; rfl
  | some j =>
    obtain ⟨hl, _, hg⟩ := mIx_lt hj
    simp only [cM_get M.m M.b j hl (by rw [ok.len]; exact hl), hg]
    rfl
theorem mu_eq (ht : mapTy P t = some (.string, .int .i64 0)) (ok : M.Ok) (h : H[mi]? = some M.ent) :
    vmapUpdate P H t (.one (.mp mi)) (.one (.c (.v (.string k)))) (.one (.c (.v (.int .i64 v)))) = some (und, H.set mi (M.put k v).ent) := by
  unfold vmapUpdate
  rw [ht, mapAt_eq h]
  have sc : (AV.one (.c (.v (.string k)))).sc = some (.string k) := rfl
  have kd : kindOk .string (.string k) = true := rfl
  simp only [sc, kd, if_true]
  rw [find_cM k M.m M.b ok.len]
  simp only [MS.put, mput, MS.ent]
  cases hj : mIx k M.m with
  | none =>
    simp only [putM, cM_app k v M.ck ok.len]
  | some j =>
    obtain ⟨hl, hk, _⟩ := mIx_lt hj
    simp only [putM, (cM_set k v ok.len hl hk).1]
theorem md_eq (ht : mapTy P t = some (.string, .int .i64 0)) (ok : M.Ok) (h : H[mi]? = some M.ent) :
    vdelete P H t (.one (.mp mi)) (.one (.c (.v (.string k)))) = some (und, H.set mi (M.del k).ent) := by
  unfold vdelete
  rw [ht, mapAt_eq h]
  have sc : (AV.one (.c (.v (.string k)))).sc = some (.string k) := rfl
  have kd : kindOk .string (.string k) = true := rfl
  simp only [sc, kd, if_true]
  rw [find_cM k M.m M.b ok.len]
  cases hj : mIx k M.m with
  | none => simp only [MS.del, hj, MS.ent]
  | some j =>
    simp only [MS.del, hj, mdel, MS.ent, cM_erase j ok.len]
theorem me_eq (ht : mapTy P t = some (.string, .int .i64 0)) (ok : M.Ok) (h : H[mi]? = some M.ent) (hg : (mget k M.m).isSome = true) :
    vmapEntry P H t (.one (.mp mi)) (.one (.c (.v (.string k)))) = some (.tup [(false, [.c (.v (.int .i64 ((mget k M.m).getD 0)))]), (false, [.c (.v (.int .i64 (M.stamp k)))])], H) := by
  unfold vmapEntry
  rw [ht, mapAt_eq h]
  have sc : (AV.one (.c (.v (.string k)))).sc = some (.string k) := rfl
  have kd : kindOk .string (.string k) = true := rfl
  simp only [sc, kd, if_true]
  rw [find_cM k M.m M.b ok.len]
  cases hj : mIx k M.m with
  | none => rw [mIx_no hj] at hg; cases hg
  | some j =>
    obtain ⟨hl, hk, hg'⟩ := mIx_lt hj
    have hb : j < M.b.length := by rw [ok.len]; exact hl
    simp only [cM_get M.m M.b j hl hb, (cM_set k 0 ok.len hl hk).2.2, hg', MS.stamp, hj, List.getElem?_eq_getElem hb]
    rw [set_same (e := .mp (M.ck, cM M.m M.b)) h]
    rfl
theorem es_eq (ok : M.Ok) (h : H[mi]? = some M.ent) (hg : (mget k M.m).isSome = true) :
    ventryStore H (.one (.mp mi)) (.one (.c (.v (.int .i64 (M.stamp k))))) (.one (.c (.v (.int .i64 v)))) = some (und, H.set mi (M.put k v).ent) := by
  unfold ventryStore
  rw [mapAt_eq h]
  cases hj : mIx k M.m with
  | none => rw [mIx_no hj] at hg; cases hg
  | some j =>
    obtain ⟨hl, hk, hg'⟩ := mIx_lt hj
    have hb : j < M.b.length := by rw [ok.len]; exact hl
    have hs : M.stamp k = M.b[j] := by simp only [MS.stamp, hj, List.getElem?_eq_getElem hb]; rfl
    simp only [MS.ent, hs, cM_stamp ok.len ok.nd hb, (cM_set k v ok.len hl hk).2.1, MS.put, mput, hj]
theorem ml_eq {ty : TypeId} (ht : isMapT P t = true) (ok : M.Ok) (h : H[mi]? = some M.ent) : vlen P H #[t] ty (.one (.mp mi)) = qa (.one (.c (.v (.int .i64 M.m.length)))) := by
  have e1 := mapAt_eq h
  unfold vlen
  simp only [show (#[t] : Array TypeId)[0]? = some t from rfl, e1, ht, if_true, cM_len M.m M.b ok.len]
  rfl
end

end Go.Proofs.Vm
end

section
/- Small laws of the machine's numbers. -/
namespace Go.Proofs.Vm
open Go

variable {P : Program} {H : Hp}

theorem w64_id {x : Int} (h0 : -9223372036854775808 ≤ x) (h1 : x < 9223372036854775808) : IntKind.i64.wrap x = x := by rw [IntKind.wrap_i64]; omega
theorem bin_half {t : TypeId} {x y : Operand} {k : Nat} (h : k < 9223372036854775808) : vbin P H .quo t x y (vI .i64 (k : Int)) (vI .i64 2) = qa (vI .i64 ((k / 2 : Nat) : Int)) := by
  rw [bin_quo (by decide)]
  have e : (k : Int).tdiv 2 = ((k / 2 : Nat) : Int) := by rw [Int.tdiv_eq_ediv_of_nonneg (by omega)]; omega
  rw [e, w64_id (by omega) (by omega)]
theorem hq_gete (K : Hp) (a b c : Nat) (x y z : Ent) (L : Hp) (j : Nat) (h : K.length + j < (hq K a b c x y z L).length) : (hq K a b c x y z L)[K.length + j]'h = L[j]'(by rw [hq_len] at h; omega) := by
  have h1 := hq_get K a b c x y z L j
  have hj : j < L.length := by rw [hq_len] at h; omega
  rw [List.getElem?_eq_getElem h, List.getElem?_eq_getElem hj] at h1
  exact Option.some.inj h1
@[simp] theorem isNil_ptr {p : Option Addr} : isNil (.const (.pointer p)) = false := rfl
theorem bin_pne {t e : TypeId} (hu : pv P (underlying t) = some (.pointer e)) {x y : Operand} {p : Pt} (hl : lenIs H p.id p.tot = true) : vbin P H .eql t x y (.one (.ptr p)) (.one (.c (.v (.pointer none)))) = qa (vB false) := by
  simp [-lenIs, vbin, vbin0, neSl, isNils, isPtr, isNilp, fresh, hl, hu, one?, Value.oneCell']
theorem bin_slo {t e : TypeId} (he : elemOfSlice P t = some e) {x y : Operand} {id o n tot : Nat} (hn : n ≠ 0) (hl : lenIs H id tot = true) : vbin P H .eql t x y (.one (.sl id o n tot)) (.one (.c (.v (.slice none 0 0)))) = qa (vB false) := by
  have hu : ∃ d, pv P (underlying t) = some (.slice d) := by
    unfold elemOfSlice at he
    split at he
    · rename_i d hd; exact ⟨_, hd⟩
    · cases he
  obtain ⟨d, hd⟩ := hu
  simp [-lenIs, vbin, neSl, isNils, okSl, hl, hn, hd, one?, Value.oneCell']
theorem eq_sl {t e : TypeId} (hu : pv P (underlying t) = some (.slice e)) (ad : Option Addr) (n c : Nat) (d : Nat) : pv P (Op.equalIn (d + 1) t (.slice ad n c) (.slice none 0 0)) = some ad.isNone := by
  unfold Op.equalIn
  cases ad <;> simp [hu]
theorem bin_slr {t e : TypeId} (he : elemOfSlice P t = some e) {x y : Operand} {ad : Option Addr} {n c : Nat} : vbin P H .eql t x y (.one (.c (.v (.slice ad n c)))) (.one (.c (.v (.slice none 0 0)))) = qa (vB ad.isNone) := by
  have hu : ∃ d, pv P (underlying t) = some (.slice d) := by
    unfold elemOfSlice at he
    split at he
    · rename_i d hd; exact ⟨_, hd⟩
    · cases he
  obtain ⟨d, hd⟩ := hu
  simp [vbin, vbin0, neSl, isNils, isPtr, isNilp, fresh, AV.sc, Cell.sc, eqGuard, binOp, ofPv, one?, Value.oneCell', Op.equal, Op.maxDepth, eq_sl hd ad n c 9999]
theorem eq_bool {t : TypeId} (hu : pv P (underlying t) = some .bool) (a b : Bool) (d : Nat) : pv P (Op.equalIn (d + 1) t (.bool a) (.bool b)) = some (a == b) := by
  unfold Op.equalIn
  simp [hu]
theorem eq_nil {t e : TypeId} (hu : pv P (underlying t) = some (.pointer e)) (d : Nat) : pv P (Op.equalIn (d + 1) t (.pointer none) (.pointer none)) = some true := by
  unfold Op.equalIn
  simp [hu]
theorem bin_pee {t e : TypeId} (hu : pv P (underlying t) = some (.pointer e)) {x y : Operand} : vbin P H .eql t x y (.one (.c (.v (.pointer none)))) (.one (.c (.v (.pointer none)))) = qa (vB true) := by
  simp [vbin, vbin0, neSl, isNils, isPtr, isNilp, fresh, AV.sc, Cell.sc, eqGuard, binOp, ofPv, one?, Value.oneCell', Op.equal, Op.maxDepth, eq_nil hu 9999]
theorem bin_bne {t : TypeId} (hu : pv P (underlying t) = some .bool) {x y : Operand} {a b : Bool} : vbin P H .neq t x y (vB a) (vB b) = qa (vB (a != b)) := by
  simp [vbin, vbin0, neSl, isNils, isPtr, isNilp, fresh, AV.sc, Cell.sc, eqGuard, binOp, ofPv, one?, Value.oneCell', Op.equal, Op.maxDepth, eq_bool hu a b 9999]
  rfl
theorem bin_beq {t : TypeId} (hu : pv P (underlying t) = some .bool) {x y : Operand} {a b : Bool} : vbin P H .eql t x y (vB a) (vB b) = qa (vB (a == b)) := by
  simp [vbin, vbin0, neSl, isNils, isPtr, isNilp, fresh, AV.sc, Cell.sc, eqGuard, binOp, ofPv, one?, Value.oneCell', Op.equal, Op.maxDepth, eq_bool hu a b 9999]
/-- The first so many of a row that does not change. -/
theorem slc_to {t e sz : Nat} (he : elemOfSlice P t = some e) (hs : pv P (sizeOf e) = some sz) {xs : List (List CV)} {nid k : Nat} (h1 : k ≤ xs.length) (hx : AllLen xs sz) : vslice P H nid t (.one (.c (.arr xs))) none (some (vI .i64 (k : Int))) none = qa (.one (.c (.arr (xs.take k)))) := by
  have h2 : (k : Int) ≤ xs.length := by omega
  unfold vslice
  simp only [he, hs, optInt, Option.getD_none, Option.getD_some]
  rw [if_pos ⟨Int.le_refl _, by omega, h2, hx⟩]
  simp
end Go.Proofs.Vm
end

section
/- Structs of strings and numbers, compared. -/
namespace Go.Proofs.Vm
open Go

variable {P : Program} {H : Hp}

theorem eq_strD {t : TypeId} (hu : pv P (underlying t) = some .string) (a b : ByteArray) (d : Nat) : pv P (Op.equalIn (d + 1) t (.string a) (.string b)) = some (a == b) := by
  unfold Op.equalIn
  simp [hu]
theorem eq_intD {t : TypeId} {k : IntKind} (hu : pv P (underlying t) = some (.int k)) (a b : Int) (d : Nat) : pv P (Op.equalIn (d + 1) t (.int k a) (.int k b)) = some (a == b) := by
  unfold Op.equalIn
  simp [hu]

theorem pv_of {t : TypeId} {d : TypeDesc} (h : P.underlying t = some d) : pv P (underlying t) = some d := by
  unfold underlying
  simp [h]
/-- Of one string and one number. -/
theorem eq_st2 {t : TypeId} {f0 f1 : Field} {k : IntKind} (hu : pv P (underlying t) = some (.struct #[f0, f1])) (hs : P.stoodInHeld t = false) (n0 : (f0.name == "_") = false) (n1 : (f1.name == "_") = false) (o0 : f0.offset = 0) (o1 : f1.offset = 1)
    (a0 : pv P (isAgg f0.type) = some false) (a1 : pv P (isAgg f1.type) = some false) (u0 : pv P (underlying f0.type) = some .string) (u1 : pv P (underlying f1.type) = some (.int k)) (a b : ByteArray) (x y : Int) (d : Nat) :
    pv P (Op.equalIn (d + 2) t (.agg #[.string a, .int k x]) (.agg #[.string b, .int k y])) = some (a == b && x == y) := by
  have m0 : ¬ f0.name = "_" := fun h => by rw [h] at n0; simp at n0
  have m1 : ¬ f1.name = "_" := fun h => by rw [h] at n1; simp at n1
  unfold Op.equalIn
  cases h0 : a == b <;> cases h1 : x == y <;> simp [hu, hs, m0, m1, o0, o1, part, a0, a1, eq_strD u0, eq_intD u1, h0, h1]

theorem bin_st2 {t : TypeId} {f0 f1 : Field} {k : IntKind} (hu : pv P (underlying t) = some (.struct #[f0, f1])) (hs : P.stoodInHeld t = false) (hg : P.eqGuardType P.depth t = false) (n0 : (f0.name == "_") = false) (n1 : (f1.name == "_") = false) (o0 : f0.offset = 0) (o1 : f1.offset = 1)
    (a0 : pv P (isAgg f0.type) = some false) (a1 : pv P (isAgg f1.type) = some false) (u0 : pv P (underlying f0.type) = some .string) (u1 : pv P (underlying f1.type) = some (.int k)) {a b : ByteArray} {x y : Int} {p q : Operand} :
    vbin P H .eql t p q (.agg [.c (.v (.string a)), .c (.v (.int k x))]) (.agg [.c (.v (.string b)), .c (.v (.int k y))]) = qa (vB (a == b && x == y)) ∧
    vbin P H .neq t p q (.agg [.c (.v (.string a)), .c (.v (.int k x))]) (.agg [.c (.v (.string b)), .c (.v (.int k y))]) = qa (vB (!(a == b && x == y))) := by
  have h := eq_st2 hu hs n0 n1 o0 o1 a0 a1 u0 u1 a b x y 9998
  constructor <;> simp [vbin, vbin0, neSl, isNils, isPtr, isNilp, fresh, AV.sc, scs, Cell.sc, eqGuard, hg, binOp, ofPv, one?, Value.oneCell', Op.equal, Op.maxDepth, h]
/-- A pointer that is none, and one that is not. -/
theorem bin_pnn {t e : TypeId} (hu : pv P (underlying t) = some (.pointer e)) {x y : Operand} {p : Pt} (hl : lenIs H p.id p.tot = true) : vbin P H .neq t x y (.one (.ptr p)) (.one (.c (.v (.pointer none)))) = qa (vB true) := by
  simp [-lenIs, vbin, vbin0, neSl, isNils, isPtr, isNilp, fresh, hl, hu, one?, Value.oneCell']
theorem bin_pen {t e : TypeId} (hu : pv P (underlying t) = some (.pointer e)) {x y : Operand} : vbin P H .neq t x y (.one (.c (.v (.pointer none)))) (.one (.c (.v (.pointer none)))) = qa (vB false) := by
  simp [vbin, vbin0, neSl, isNils, isPtr, isNilp, fresh, AV.sc, Cell.sc, eqGuard, binOp, ofPv, one?, Value.oneCell', Op.equal, Op.maxDepth, eq_nil hu 9999]
end Go.Proofs.Vm
end

section
/- Numbers of the field, sums and cells of keys. -/
namespace Go.Proofs.YthhbkihhllflfaaF
open Go Go.Proofs.Vm

theorem u64w (x : Int) : IntKind.u64.wrap x = x % 18446744073709551616 := by simp [IntKind.wrap, IntKind.bits, IntKind.signed]
theorem u64_id {x : Int} (h0 : 0 ≤ x) (h1 : x < 18446744073709551616) : IntKind.u64.wrap x = x := by rw [u64w]; omega
theorem and_low (x : Int) (n : Nat) (hn : n ≤ 63) (h0 : 0 ≤ x) (h1 : x < 18446744073709551616) : Go.bits .and .u64 x ((2 ^ n - 1 : Nat) : Int) = x % ((2 ^ n : Nat) : Int) := by
  have hp : 2 ^ n ≤ 2 ^ 63 := Nat.pow_le_pow_right (by omega) hn
  have hq : 2 ^ 63 = 9223372036854775808 := by decide
  rw [u64_and x _ h0 h1 (by omega) (by omega)]
  rw [show ((2 ^ n - 1 : Nat) : Int).toNat = 2 ^ n - 1 by omega, Nat.and_two_pow_sub_one_eq_mod]
  obtain ⟨m, rfl⟩ := Int.eq_ofNat_of_zero_le h0
  simp
theorem and_P (x : Int) (h0 : 0 ≤ x) (h1 : x < 18446744073709551616) : Go.bits .and .u64 x 2305843009213693951 = x % 2305843009213693952 := and_low x 61 (by omega) h0 h1
theorem and_32 (x : Int) (h0 : 0 ≤ x) (h1 : x < 18446744073709551616) : Go.bits .and .u64 x 4294967295 = x % 4294967296 := and_low x 32 (by omega) h0 h1
theorem and_1 (x : Int) (h0 : 0 ≤ x) (h1 : x < 18446744073709551616) : Go.bits .and .u64 x 1 = x % 2 := and_low x 1 (by omega) h0 h1

theorem or_join' (x y : Int) (n : Nat) (hx0 : 0 ≤ x) (hx1 : x < 18446744073709551616) (hx : x % ((2 ^ n : Nat) : Int) = 0) (hy0 : 0 ≤ y) (hy1 : y < ((2 ^ n : Nat) : Int)) (hy2 : y < 18446744073709551616) : Go.bits .or .u64 y x = y + x := by
  rw [u64_or y x hy0 hy2 hx0 hx1]
  obtain ⟨a, rfl⟩ := Int.eq_ofNat_of_zero_le hx0
  obtain ⟨b, rfl⟩ := Int.eq_ofNat_of_zero_le hy0
  have h := nat_join n a b (by omega) (by omega)
  simp only [Int.toNat_natCast]
  rw [Nat.or_comm, h]
  simp; omega
theorem mul_bound {x y : Int} (n : Int) (h0 : 0 ≤ x) (h1 : x ≤ n) (h2 : 0 ≤ y) (h3 : y ≤ n) : 0 ≤ x * y ∧ x * y ≤ n * n :=
  ⟨Int.mul_nonneg h0 h2, Int.mul_le_mul h1 h3 h2 (by omega)⟩

theorem field_Of {a : Int} (h0 : 0 ≤ a) (h1 : a < 18446744073709551616) : TV.pu 94 [cI .u64 a] = some (cI .u64 (a % 2305843009213693951)) := by
  refine run94 (by simp) ?_
  simp [Try.f94, bin_shr, and_P a h0 h1, IntKind.bits]
  rw [u64_id (x := a % 2305843009213693952 + a / 2305843009213693952) (by omega) (by omega)]
  split
  · rw [u64_id (by omega) (by omega)]; omega
  · omega

theorem field_Add {a b : Int} (h0 : 0 ≤ a) (h1 : a < 18446744073709551616) (h2 : 0 ≤ b) (h3 : b < 18446744073709551616) : TV.pu 74 [cI .u64 a, cI .u64 b] = some (cI .u64 ((a + b) % 2305843009213693951)) := by
  refine run74 (by simp) ?_
  have e : IntKind.u64.wrap (a % 2305843009213693951 + b % 2305843009213693951) = a % 2305843009213693951 + b % 2305843009213693951 := u64_id (by omega) (by omega)
  simp [Try.f74, field_Of h0 h1, field_Of h2 h3, e, field_Of (a := a % 2305843009213693951 + b % 2305843009213693951) (by omega) (by omega)]

theorem Mul64 {x y : Int} (h0 : 0 ≤ x) (h1 : x < 18446744073709551616) (h2 : 0 ≤ y) (h3 : y < 18446744073709551616) : TV.pu 95 [cI .u64 x, cI .u64 y] = some (.tup [(false, [.v (.int .u64 (x * y / 18446744073709551616))]), (false, [.v (.int .u64 (x * y % 18446744073709551616))])]) := by
  refine run95 (by simp) ?_
  simp [Try.f95, bin_shr, IntKind.bits, and_32 x h0 h1, and_32 y h2 h3]
  obtain ⟨x1, hx1⟩ : ∃ z, z = x / 4294967296 := ⟨_, rfl⟩
  obtain ⟨x0, hx0⟩ : ∃ z, z = x % 4294967296 := ⟨_, rfl⟩
  obtain ⟨y1, hy1⟩ : ∃ z, z = y / 4294967296 := ⟨_, rfl⟩
  obtain ⟨y0, hy0⟩ : ∃ z, z = y % 4294967296 := ⟨_, rfl⟩
  rw [← hx1, ← hx0, ← hy1, ← hy0]
  have ex : x = x1 * 4294967296 + x0 := by omega
  have ey : y = y1 * 4294967296 + y0 := by omega
  have b11 := mul_bound (x := x1) (y := y1) 4294967295 (by omega) (by omega) (by omega) (by omega)
  have b10 := mul_bound (x := x1) (y := y0) 4294967295 (by omega) (by omega) (by omega) (by omega)
  have b01 := mul_bound (x := x0) (y := y1) 4294967295 (by omega) (by omega) (by omega) (by omega)
  have b00 := mul_bound (x := x0) (y := y0) 4294967295 (by omega) (by omega) (by omega) (by omega)
  have exy : x * y = x1 * y1 * 18446744073709551616 + (x1 * y0 + x0 * y1) * 4294967296 + x0 * y0 := by rw [ex, ey]; grind
  rw [exy]
  generalize x1 * y1 = p11 at *
  generalize x1 * y0 = p10 at *
  generalize x0 * y1 = p01 at *
  generalize x0 * y0 = p00 at *
  clear hx1 hx0 hy1 hy0 ex ey exy h0 h1 h2 h3
  rw [u64_id (x := p11) (by omega) (by omega), u64_id (x := p10) (by omega) (by omega), u64_id (x := p01) (by omega) (by omega), u64_id (x := p00) (by omega) (by omega)]
  rw [u64_id (x := p10 + p00 / 4294967296) (by omega) (by omega)]
  rw [and_32 _ (by omega) (by omega)]
  rw [u64_id (x := (p10 + p00 / 4294967296) % 4294967296 + p01) (by omega) (by omega)]
  rw [u64_id (x := p11 + (p10 + p00 / 4294967296) / 4294967296) (by omega) (by omega)]
  rw [u64_id (x := p11 + (p10 + p00 / 4294967296) / 4294967296 + ((p10 + p00 / 4294967296) % 4294967296 + p01) / 4294967296) (by omega) (by omega)]
  rw [u64w]
  omega

theorem field_Mul {a b : Int} (h0 : 0 ≤ a) (h1 : a < 18446744073709551616) (h2 : 0 ≤ b) (h3 : b < 18446744073709551616) : TV.pu 75 [cI .u64 a, cI .u64 b] = some (cI .u64 (a * b % 2305843009213693951)) := by
  refine run75 (by simp) ?_
  have hb := mul_bound (x := a % 2305843009213693951) (y := b % 2305843009213693951) 2305843009213693950 (by omega) (by omega) (by omega) (by omega)
  have hm := Mul64 (x := a % 2305843009213693951) (y := b % 2305843009213693951) (by omega) (by omega) (by omega) (by omega)
  rw [Int.mul_emod a b]
  generalize a % 2305843009213693951 * (b % 2305843009213693951) = N at hb hm ⊢
  simp [Try.f75, field_Of h0 h1, field_Of h2 h3, hm, bin_shr, bin_shl, IntKind.bits]
  rw [and_P _ (by omega) (by omega)]
  rw [u64_id (x := N / 18446744073709551616 * 8) (by omega) (by omega)]
  rw [or_join' (N / 18446744073709551616 * 8) (N % 18446744073709551616 / 2305843009213693952) 3 (by omega) (by omega) (by omega) (by omega) (by omega) (by omega)]
  rw [u64_id (by omega) (by omega), field_Of (by omega) (by omega)]
  simp
  omega
theorem int_sq (x : Int) : x ^ 2 = x * x := by rw [Int.pow_succ, Int.pow_succ, Int.pow_zero, Int.one_mul]
theorem emod_pow (a n : Int) (k : Nat) : (a % n) ^ k % n = a ^ k % n := by
  induction k with
  | zero => simp
  | succ k ih => rw [Int.pow_succ, Int.pow_succ, Int.mul_emod, ih, Int.emod_emod_of_dvd _ (Int.dvd_refl n), ← Int.mul_emod]

theorem field_Pow {x : Int} {n : Nat} (h0 : 0 ≤ x) (h1 : x < 18446744073709551616) (hn : (n : Int) < 18446744073709551616) : TV.pu 99 [cI .u64 x, cI .u64 n] = some (cI .u64 (x ^ n % 2305843009213693951)) := by
  refine run99 (by simp) ?_
  simp [Try.f99, field_Of h0 h1]
  obtain ⟨I, hI⟩ : ∃ I : Nat → St → Prop, ∀ k s, I k s ↔ (∃ e y o, s = ⟨e, []⟩ ∧ e 0 = vI .u64 y ∧ e 1 = vI .u64 (k : Nat) ∧ e 5 = vI .u64 o ∧ 0 ≤ y ∧ y < 2305843009213693951 ∧ 0 ≤ o ∧ o < 2305843009213693951 ∧ (k : Int) < 18446744073709551616 ∧ o * y ^ k % 2305843009213693951 = x ^ n % 2305843009213693951) := ⟨_, fun _ _ => Iff.rfl⟩
  refine wpL_ind I ?_ n _ ((hI _ _).2 ⟨_, x % 2305843009213693951, 1, rfl, by simp, by simp, by simp, by omega, by omega, by omega, by omega, hn, by rw [Int.one_mul, emod_pow]⟩)
  intro k s hs
  obtain ⟨e, y, o, rfl, e0, e1, e5, y0, y1, o0, o1, k1, hk⟩ := (hI _ _).1 hs
  have hm := field_Mul (a := y) (b := y) y0 (by omega) y0 (by omega)
  have ho := field_Mul (a := o) (b := y) o0 (by omega) y0 (by omega)
  have key : ∀ o : Int, (o * (y * y % 2305843009213693951) ^ (k / 2)) % 2305843009213693951 = (o * y ^ (2 * (k / 2))) % 2305843009213693951 := by
    intro o
    rw [Int.mul_emod, emod_pow, ← Int.mul_emod, ← int_sq, ← Int.pow_mul]
  simp [e0, e1, e5, hm, ho, bin_shr, IntKind.bits, and_1 (k : Int) (by omega) (by omega)]
  by_cases hz : k = 0
  · subst hz
    rw [if_neg (by omega)]
    simp at hk
    rw [← hk]
    omega
  · rw [if_pos (by omega)]
    split
    · refine ⟨k / 2, by omega, (hI _ _).2 ⟨_, y * y % 2305843009213693951, o * y % 2305843009213693951, rfl, by simp, by simp, by simp, by omega, by omega, by omega, by omega, by omega, ?_⟩⟩
      rw [key, ← hk]
      have e2 : y ^ k = y * y ^ (2 * (k / 2)) := by
        rw [Int.mul_comm, ← Int.pow_succ]; congr 1; omega
      rw [e2, ← Int.mul_assoc, Int.mul_emod, Int.emod_emod_of_dvd _ (Int.dvd_refl _), ← Int.mul_emod]
    · refine ⟨k / 2, by omega, (hI _ _).2 ⟨_, y * y % 2305843009213693951, o, rfl, by simp, by simp, by simp [e5], by omega, by omega, by omega, by omega, by omega, ?_⟩⟩
      rw [key, ← hk, show 2 * (k / 2) = k by omega]
theorem byt_range (s : ByteArray) (i : Int) : 0 ≤ byt s i ∧ byt s i < 256 := by
  unfold byt
  split
  · rename_i b _
    have := b.toNat_lt
    omega
  · omega
theorem byt_out (s : ByteArray) (i : Int) (h0 : 0 ≤ i) (h : (s.size : Int) ≤ i) : byt s i = 0 := by
  unfold byt
  have : s[i.toNat]? = none := by simp; omega
  rw [this]
def fP : Int := 2305843009213693951
/-- Four bytes as a number; noughts behind the end. -/
def hword (s : ByteArray) (i : Int) : Int := ((byt s i * 256 + byt s (i + 1)) * 256 + byt s (i + 2)) * 256 + byt s (i + 3)
/-- What is reckoned of the first n words. -/
def hpoly (a : Int) (s : ByteArray) : Nat → Int
  | 0 => (s.size : Int) % 2305843009213693951
  | n + 1 => (hpoly a s n * a + (hword s (4 * (n : Int)) + 1)) % 2305843009213693951
def nwords (s : ByteArray) : Nat := (s.size + 3) / 4
def hsum (seed : Int) (s : ByteArray) : Int := (hpoly ((seed + 2) % 2305843009213693951) s (nwords s) * ((seed + 2) % 2305843009213693951) % 2305843009213693951) ^ 17 % 2305843009213693951
def hrow (seed i : Int) : Int := (((seed + 3) * ((if i < 0 then 0 else i) + 2) + 5) % 2305843009213693951) ^ 2 % 2305843009213693951
def hcell (seed : Int) (s : ByteArray) (n : Int) : Int := if n < 1 then 0 else hsum seed s % n
def hsign (seed : Int) (s : ByteArray) : Int := hsum seed s % 2 * 2 - 1

theorem hsum_range (seed : Int) (s : ByteArray) : 0 ≤ hsum seed s ∧ hsum seed s < 2305843009213693951 := by
  unfold hsum; omega
theorem hrow_range (seed i : Int) : 0 ≤ hrow seed i ∧ hrow seed i < 2305843009213693951 := by
  unfold hrow; omega
theorem hcell_range (seed : Int) (s : ByteArray) (n : Int) (h : 1 ≤ n) : 0 ≤ hcell seed s n ∧ hcell seed s n < n := by
  unfold hcell
  rw [if_neg (by omega)]
  exact ⟨Int.emod_nonneg _ (by omega), Int.emod_lt_of_pos _ (by omega)⟩
theorem hsign_or (seed : Int) (s : ByteArray) : hsign seed s = 1 ∨ hsign seed s = -1 := by
  unfold hsign; omega
theorem hword_range (s : ByteArray) (i : Int) : 0 ≤ hword s i ∧ hword s i < 4294967296 := by
  have a := byt_range s i; have b := byt_range s (i + 1); have c := byt_range s (i + 2); have d := byt_range s (i + 3)
  unfold hword; omega
theorem hpoly_range (a : Int) (s : ByteArray) (n : Nat) : 0 ≤ hpoly a s n ∧ hpoly a s n < 2305843009213693951 := by
  cases n with
  | zero => unfold hpoly; omega
  | succ n => unfold hpoly; omega

theorem or_join (x y : Int) (n : Nat) (hx0 : 0 ≤ x) (hx1 : x < 18446744073709551616) (hx : x % ((2 ^ n : Nat) : Int) = 0) (hy0 : 0 ≤ y) (hy1 : y < ((2 ^ n : Nat) : Int)) (hy2 : y < 18446744073709551616) : Go.bits .or .u64 x y = x + y := by
  rw [u64_or x y hx0 hx1 hy0 hy2]
  obtain ⟨a, rfl⟩ := Int.eq_ofNat_of_zero_le hx0
  obtain ⟨b, rfl⟩ := Int.eq_ofNat_of_zero_le hy0
  have h := nat_join n a b (by omega) (by omega)
  simp only [Int.toNat_natCast]
  rw [h]
  simp

theorem hash_Row {s i : Int} (h0 : 0 ≤ s) (h1 : s < 18446744073709551616) (h2 : i < 9223372036854775808) (h3 : -9223372036854775808 ≤ i) : TV.pu 49 [cI .u64 s, cI .i64 i] = some (cI .u64 (hrow s i)) := by
  refine run49 (by simp) ?_
  obtain ⟨j, hj⟩ : ∃ j, j = if i < 0 then 0 else i := ⟨_, rfl⟩
  have hj0 : 0 ≤ j := by rw [hj]; split <;> omega
  have hj1 : j < 9223372036854775808 := by rw [hj]; split <;> omega
  obtain ⟨v1, h1'⟩ : ∃ v, v = (s + 3) % 2305843009213693951 := ⟨_, rfl⟩
  obtain ⟨v2, h2'⟩ : ∃ v, v = (j + 2) % 2305843009213693951 := ⟨_, rfl⟩
  obtain ⟨v3, h3'⟩ : ∃ v, v = v1 * v2 % 2305843009213693951 := ⟨_, rfl⟩
  obtain ⟨v4, h4'⟩ : ∃ v, v = (v3 + 5) % 2305843009213693951 := ⟨_, rfl⟩
  have e1 := field_Add (a := s) (b := 3) h0 h1 (by omega) (by omega)
  have e2 := field_Add (a := j) (b := 2) hj0 (by omega) (by omega) (by omega)
  have e3 := field_Mul (a := v1) (b := v2) (by omega) (by omega) (by omega) (by omega)
  have e4 := field_Add (a := v3) (b := 5) (by omega) (by omega) (by omega) (by omega)
  have e5 := field_Mul (a := v4) (b := v4) (by omega) (by omega) (by omega) (by omega)
  rw [← h1'] at e1
  rw [← h2'] at e2
  rw [← h3'] at e3
  rw [← h4'] at e4
  have ew : IntKind.u64.wrap j = j := u64_id hj0 (by omega)
  have em : (if i < 0 then 0 else i) = j := hj.symm
  simp [Try.f49, e1, em, ew, e2, e3, e4, e5]
  unfold hrow
  rw [em, int_sq]
  have hv : v4 = ((s + 3) * (j + 2) + 5) % 2305843009213693951 := by
    have : v3 = (s + 3) * (j + 2) % 2305843009213693951 := by rw [h3', h1', h2', ← Int.mul_emod]
    omega
  rw [hv]

/-- The first bytes of a word. -/
def hwp (s : ByteArray) (i : Int) : Nat → Int
  | 0 => 0
  | j + 1 => hwp s i j * 256 + byt s (i + j)
theorem hwp_range (s : ByteArray) (i : Int) : ∀ j : Nat, 0 ≤ hwp s i j ∧ hwp s i j < 256 ^ j
  | 0 => by simp [hwp]
  | j + 1 => by
    have := hwp_range s i j
    have := byt_range s (i + j)
    simp only [hwp]
    rw [Int.pow_succ]
    omega
theorem hwp_word (s : ByteArray) (i : Int) : hwp s i 4 = hword s i := by
  simp [hwp, hword]

theorem hash_Sum {seed : Int} {s : ByteArray} (h0 : 0 ≤ seed) (h1 : seed < 18446744073709551616) (hs : s.size ≤ 140737488351232) : TV.pu 81 [cI .u64 seed, cS s] = some (cI .u64 (hsum seed s)) := by
  refine run81 (by simp) ?_
  have ha := field_Add (a := seed) (b := 2) h0 h1 (by omega) (by omega)
  have ew : IntKind.u64.wrap (s.size : Int) = s.size := u64_id (by omega) (by omega)
  obtain ⟨a, hae⟩ : ∃ a, a = (seed + 2) % 2305843009213693951 := ⟨_, rfl⟩
  have ha0 : 0 ≤ a := by omega
  have ha1 : a < 2305843009213693951 := by omega
  rw [← hae] at ha
  simp [Try.f81, ha, ew]
  obtain ⟨I, hI⟩ : ∃ I : Nat → St → Prop, ∀ k s', I k s' ↔ (∃ e n, s' = ⟨e, []⟩ ∧ e 1 = vS s ∧ e 5 = vI .u64 a ∧ e 6 = vI .u64 (hpoly a s n) ∧ e 7 = vI .i64 (4 * (n : Nat) : Int) ∧ n + k = nwords s) := ⟨_, fun _ _ => Iff.rfl⟩
  have e0 : hpoly a s 0 = (s.size : Int) := by
    show (s.size : Int) % 2305843009213693951 = _
    omega
  refine wpL_ind I ?_ (nwords s) _ ((hI _ _).2 ⟨_, 0, rfl, by simp, by simp, by simp [e0], by simp, by omega⟩)
  intro k st hst
  obtain ⟨e, n, rfl, e1, e5, e6, e7, hk⟩ := (hI _ _).1 hst
  have hp := hpoly_range a s n
  simp [e1, e5, e6, e7]
  by_cases c : k = 0
  · have hsz : ¬ 4 * (n : Int) < (s.size : Int) := by unfold nwords at hk; omega
    have hn : n = nwords s := by omega
    rw [if_neg hsz]
    have hm := field_Mul (a := hpoly a s n) (b := a) hp.1 (by omega) ha0 (by omega)
    have hw := field_Pow (x := hpoly a s n * a % 2305843009213693951) (n := 17) (by omega) (by omega) (by omega)
    simp at hw
    simp [hm, hw]
    unfold hsum
    rw [← hae, ← hn]
  · have hsz : 4 * (n : Int) < (s.size : Int) := by unfold nwords at hk; omega
    rw [if_pos hsz]
    obtain ⟨J, hJ⟩ : ∃ J : Nat → St → Prop, ∀ k s', J k s' ↔ (∃ e j, s' = ⟨e, []⟩ ∧ e 1 = vS s ∧ e 5 = vI .u64 a ∧ e 6 = vI .u64 (hpoly a s n) ∧ e 7 = vI .i64 (4 * (n : Nat) : Int) ∧ e 8 = vI .u64 (hwp s (4 * (n : Nat) : Int) j) ∧ e 21 = vI .i64 (j : Nat) ∧ j + k = 4) := ⟨_, fun _ _ => Iff.rfl⟩
    refine wpL_ind J ?_ 4 _ ((hJ _ _).2 ⟨_, 0, rfl, by simp [e1], by simp [e5], by simp [e6], by simp [e7], by simp [hwp], by simp, by omega⟩)
    intro q st hst
    obtain ⟨e', j, rfl, f1, f5, f6, f7, f8, f21, hq⟩ := (hJ _ _).1 hst
    have hr := hwp_range s (4 * (n : Int)) j
    have hb := byt_range s (4 * (n : Int) + j)
    have w1 : IntKind.i64.wrap (4 * (n : Int) + j) = 4 * (n : Int) + j := w64_id (by omega) (by omega)
    have w2 : IntKind.u64.wrap (byt s (4 * (n : Int) + j)) = byt s (4 * (n : Int) + j) := u64_id hb.1 (by omega)
    have w3 : IntKind.i64.wrap ((j : Int) + 1) = ((j + 1 : Nat) : Int) := by rw [w64_id (by omega) (by omega)]; omega
    by_cases hj : j < 4
    · have hr2 : hwp s (4 * (n : Int)) j < 16777216 := by
        have : (256 : Int) ^ j ≤ 256 ^ 3 := by
          have : j = 0 ∨ j = 1 ∨ j = 2 ∨ j = 3 := by omega
          rcases this with rfl | rfl | rfl | rfl <;> decide
        omega
      have w4 : IntKind.u64.wrap (hwp s (4 * (n : Int)) j * 256) = hwp s (4 * (n : Int)) j * 256 := u64_id (by omega) (by omega)
      have hj' : ((j : Int) < 4) := by omega
      by_cases hc : 4 * (n : Int) + j < s.size
      · have hx := idx_str us9 (s := s) (k := .i64) (i := 4 * (n : Int) + j) (by omega) hc
        have ho := or_join (hwp s (4 * (n : Int)) j * 256) (byt s (4 * (n : Int) + j)) 8 (by omega) (by omega) (by omega) (by omega) (by omega) (by omega)
        simp [f1, f5, f6, f7, f8, f21, bin_shl, IntKind.bits, w1, w2, w3, w4, hj', hc, hx, ho]
        exact ⟨q - 1, by omega, (hJ _ _).2 ⟨_, j + 1, rfl, by simp [f1], by simp [f5], by simp [f6], by simp [f7], by simp [hwp], by simp, by omega⟩⟩
      · have hx := byt_out s (4 * (n : Int) + j) (by omega) (by omega)
        simp [f1, f5, f6, f7, f8, f21, bin_shl, IntKind.bits, w1, w3, w4, hj', hc]
        exact ⟨q - 1, by omega, (hJ _ _).2 ⟨_, j + 1, rfl, by simp [f1], by simp [f5], by simp [f6], by simp [f7], by simp [hwp, hx], by simp, by omega⟩⟩
    · have hj4 : j = 4 := by omega
      subst hj4
      have hw := hword_range s (4 * (n : Int))
      rw [hwp_word] at f8
      have w5 : IntKind.u64.wrap (hword s (4 * (n : Int)) + 1) = hword s (4 * (n : Int)) + 1 := u64_id (by omega) (by omega)
      have hm := field_Mul (a := hpoly a s n) (b := a) hp.1 (by omega) ha0 (by omega)
      obtain ⟨v, hv⟩ : ∃ v, v = hpoly a s n * a % 2305843009213693951 := ⟨_, rfl⟩
      rw [← hv] at hm
      have had := field_Add (a := v) (b := hword s (4 * (n : Int)) + 1) (by omega) (by omega) (by omega) (by omega)
      have w6 : IntKind.i64.wrap (4 * (n : Int) + 4) = 4 * (n : Int) + 4 := w64_id (by omega) (by omega)
      simp [f5, f6, f7, f8, f21, hm, w5, had, w6]
      refine ⟨k - 1, by omega, (hI _ _).2 ⟨_, n + 1, rfl, by simp [f1], by simp [f5], ?_, ?_, by omega⟩⟩
      · simp [hpoly, hv]
      · simp; omega

theorem hash_Cell {seed n : Int} {s : ByteArray} (h0 : 0 ≤ seed) (h1 : seed < 18446744073709551616) (hs : s.size ≤ 140737488351232) (hn : n < 9223372036854775808) : TV.pu 61 [cI .u64 seed, cS s, cI .i64 n] = some (cI .i64 (hcell seed s n)) := by
  refine run61 (by simp) ?_
  have hr := hsum_range seed s
  by_cases c : n < 1
  · simp [Try.f61, c, hcell]
  · have h2 := Int.emod_nonneg (hsum seed s) (show n ≠ 0 by omega)
    have h3 := Int.emod_lt_of_pos (hsum seed s) (show 0 < n by omega)
    have e1 : IntKind.u64.wrap n = n := u64_id (by omega) (by omega)
    have e2 : (hsum seed s).tmod n = hsum seed s % n := Int.tmod_eq_emod_of_nonneg hr.1
    have e3 : IntKind.i64.wrap (hsum seed s % n) = hsum seed s % n := w64_id (by omega) (by omega)
    have e4 : n ≠ 0 := by omega
    simp [Try.f61, c, hcell, hash_Sum h0 h1 hs, e1, bin_rem e4, e2, e3]

end Go.Proofs.YthhbkihhllflfaaF
end

section
/- The document's numbers of the field, sums and cells of keys. -/
namespace Go.Proofs.YthhbkihhllflfaaF
open Go Go.Proofs.Vm

theorem sbin_add {P : Program} {H : Hp} {t : TypeId} {x y : Operand} {u v : ByteArray} (h : u.size + v.size ≤ 9223372036854775807) : vbin P H .add t x y (vS u) (vS v) = qa (vS (u ++ v)) := by
  have h' : ¬ 9223372036854775807 < (u.size : Int) + (v.size : Int) := by omega
  simp [vbin, vbin0, neSl, isNils, isPtr, isNilp, AV.sc, Cell.sc, eqGuard, binOp, Op.stringOp, ofPv, one?, Value.oneCell', h']
theorem byt_app (a b : ByteArray) (i : Int) (h0 : 0 ≤ i) : byt (a ++ b) i = if i < a.size then byt a i else byt b (i - a.size) := by
  obtain ⟨n, rfl⟩ := Int.eq_ofNat_of_zero_le h0
  by_cases h : (n : Int) < a.size
  · have h' : n < a.size := by omega
    have e : (a ++ b)[(n : Int).toNat]? = a[(n : Int).toNat]? := by
      simp only [Int.toNat_natCast]
      rw [getElem?_pos (a ++ b) n (by simp; omega), getElem?_pos a n h']
      congr 1
      exact ByteArray.getElem_append_left h'
    rw [if_pos h]
    unfold byt
    rw [e]
  · have h' : a.size ≤ n := by omega
    have e : (a ++ b)[(n : Int).toNat]? = b[((n : Int) - a.size).toNat]? := by
      rw [show ((n : Int) - a.size).toNat = n - a.size by omega, Int.toNat_natCast]
      by_cases hb : n < a.size + b.size
      · rw [getElem?_pos (a ++ b) n (by simp; omega), getElem?_pos b (n - a.size) (by omega)]
        congr 1
        exact ByteArray.getElem_append_right h'
      · rw [getElem?_neg (a ++ b) n (by simp; omega), getElem?_neg b (n - a.size) (by omega)]
    rw [if_neg h]
    unfold byt
    rw [e]

theorem r1_Of {a : Int} (h0 : 0 ≤ a) (_h1 : a < 18446744073709551616) : TV.pu 97 [cI .u64 a] = some (cI .u64 (a % 2305843009213693951)) := by
  refine run97 (by simp) ?_
  have e : a.tmod 2305843009213693951 = a % 2305843009213693951 := Int.tmod_eq_emod_of_nonneg h0
  simp -implicitDefEqProofs [Try.f97, bin_rem, e]
theorem r1_Add {a b : Int} (h0 : 0 ≤ a) (_h1 : a < 18446744073709551616) (h2 : 0 ≤ b) (_h3 : b < 18446744073709551616) : TV.pu 69 [cI .u64 a, cI .u64 b] = some (cI .u64 ((a + b) % 2305843009213693951)) := by
  refine run69 (by simp) ?_
  have e1 : a.tmod 2305843009213693951 = a % 2305843009213693951 := Int.tmod_eq_emod_of_nonneg h0
  have e2 : b.tmod 2305843009213693951 = b % 2305843009213693951 := Int.tmod_eq_emod_of_nonneg h2
  have e3 : IntKind.u64.wrap (a % 2305843009213693951 + b % 2305843009213693951) = a % 2305843009213693951 + b % 2305843009213693951 := u64_id (by omega) (by omega)
  have e4 : (a % 2305843009213693951 + b % 2305843009213693951).tmod 2305843009213693951 = (a + b) % 2305843009213693951 := by rw [Int.tmod_eq_emod_of_nonneg (by omega)]; omega
  simp -implicitDefEqProofs [Try.f69, bin_rem, e1, e2, e3, e4]
theorem r1_Mul {a b : Int} (h0 : 0 ≤ a) (_h1 : a < 18446744073709551616) (h2 : 0 ≤ b) (_h3 : b < 18446744073709551616) : TV.pu 68 [cI .u64 a, cI .u64 b] = some (cI .u64 (a * b % 2305843009213693951)) := by
  refine run68 (by simp) ?_
  have e1 : a.tmod 2305843009213693951 = a % 2305843009213693951 := Int.tmod_eq_emod_of_nonneg h0
  have e2 : b.tmod 2305843009213693951 = b % 2305843009213693951 := Int.tmod_eq_emod_of_nonneg h2
  simp -implicitDefEqProofs [Try.f68, bin_rem, e1, e2]
  obtain ⟨I, hI⟩ : ∃ I : Nat → St → Prop, ∀ k s, I k s ↔ (∃ e y o, s = ⟨e, []⟩ ∧ e 0 = vI .u64 y ∧ e 1 = vI .u64 (k : Nat) ∧ e 5 = vI .u64 o ∧ 0 ≤ y ∧ y < 2305843009213693951 ∧ 0 ≤ o ∧ o < 2305843009213693951 ∧ (k : Int) < 18446744073709551616 ∧ (o + y * k) % 2305843009213693951 = a * b % 2305843009213693951) := ⟨_, fun _ _ => Iff.rfl⟩
  have hb : ((b % 2305843009213693951).toNat : Int) = b % 2305843009213693951 := Int.toNat_of_nonneg (by omega)
  refine wpL_ind I ?_ (b % 2305843009213693951).toNat _ ((hI _ _).2 ⟨_, a % 2305843009213693951, 0, rfl, by simp, by simp [hb], by simp, by omega, by omega, by omega, by omega, by omega, by rw [hb, Int.zero_add, ← Int.mul_emod]⟩)
  intro k s hs
  obtain ⟨e, y, o, rfl, e0, e1, e5, y0, y1, o0, o1, k1, hk⟩ := (hI _ _).1 hs
  have t1 : ((k : Int)).tmod 2 = (k : Int) % 2 := Int.tmod_eq_emod_of_nonneg (by omega)
  have t2 : IntKind.u64.wrap ((k : Int).tdiv 2) = ((k / 2 : Nat) : Int) := by
    rw [Int.tdiv_eq_ediv_of_nonneg (by omega), u64_id (by omega) (by omega)]; omega
  have t2' : IntKind.u64.wrap ((k : Int) / 2) = (k : Int) / 2 := u64_id (by omega) (by omega)
  have t3 : IntKind.u64.wrap (y + y) = y + y := u64_id (by omega) (by omega)
  have t4 : (y + y).tmod 2305843009213693951 = (y + y) % 2305843009213693951 := Int.tmod_eq_emod_of_nonneg (by omega)
  have t5 : IntKind.u64.wrap (o + y) = o + y := u64_id (by omega) (by omega)
  have t6 : (o + y).tmod 2305843009213693951 = (o + y) % 2305843009213693951 := Int.tmod_eq_emod_of_nonneg (by omega)
  have key : ∀ c : Int, (c + (y + y) % 2305843009213693951 * ((k / 2 : Nat) : Int)) % 2305843009213693951 = (c + y * (2 * ((k / 2 : Nat) : Int))) % 2305843009213693951 := by
    intro c
    have : (y + y) * ((k / 2 : Nat) : Int) = y * (2 * ((k / 2 : Nat) : Int)) := by grind
    rw [Int.add_emod, Int.mul_emod, Int.emod_emod_of_dvd _ (Int.dvd_refl _), ← Int.mul_emod, ← Int.add_emod, this]
  by_cases c : k = 0
  · subst c
    simp at hk
    have : o % 2305843009213693951 = o := Int.emod_eq_of_lt o0 o1
    simp -implicitDefEqProofs [e1, e5]
    rw [← hk, this]
  · have c' : 0 < (k : Int) := by omega
    have c2 : 0 < k := by omega
    by_cases d : (k : Int) % 2 = 1
    · simp -implicitDefEqProofs [e0, e1, e5, c2, bin_rem, bin_quo, t1, t2', t3, t4, t5, t6, d]
      refine ⟨k / 2, by omega, (hI _ _).2 ⟨_, (y + y) % 2305843009213693951, (o + y) % 2305843009213693951, rfl, by simp, by simp, by simp, by omega, by omega, by omega, by omega, by omega, ?_⟩⟩
      rw [key, ← hk, Int.emod_add_emod]
      congr 1
      have : (k : Int) = 2 * ((k / 2 : Nat) : Int) + 1 := by omega
      rw [this]
      grind
    · have d' : ((k : Int) % 2 == 1) = false := by simpa using d
      simp -implicitDefEqProofs [e0, e1, c2, bin_rem, bin_quo, t1, t2', t3, t4, d']
      refine ⟨k / 2, by omega, (hI _ _).2 ⟨_, (y + y) % 2305843009213693951, o, rfl, by simp, by simp, by simp [e5], by omega, by omega, by omega, by omega, by omega, ?_⟩⟩
      rw [key, ← hk]
      congr 2
      have : (k : Int) = 2 * ((k / 2 : Nat) : Int) := by omega
      rw [this]
theorem r1_Pow {x : Int} (h0 : 0 ≤ x) (h1 : x < 18446744073709551616) : ∀ (N n : Nat), n < N → (n : Int) < 18446744073709551616 → TV.pu 70 [cI .u64 x, cI .u64 n] = some (cI .u64 (x ^ n % 2305843009213693951)) := by
  intro N
  induction N with
  | zero => intro n h; omega
  | succ N ih =>
    intro n hn hn2
    refine run70 (by simp) ?_
    by_cases c : n = 0
    · subst c
      simp -implicitDefEqProofs [Try.f70]
    · have c' : ¬ (n : Int) = 0 := by omega
      have hr := ih (n / 2) (by omega) (by omega)
      rw [show ((n / 2 : Nat) : Int) = (n : Int) / 2 by omega] at hr
      have t1 : (n : Int).tmod 2 = (n : Int) % 2 := Int.tmod_eq_emod_of_nonneg (by omega)
      have t2 : IntKind.u64.wrap ((n : Int).tdiv 2) = ((n / 2 : Nat) : Int) := by
        rw [Int.tdiv_eq_ediv_of_nonneg (by omega), u64_id (by omega) (by omega)]; omega
      have t2' : IntKind.u64.wrap ((n : Int) / 2) = (n : Int) / 2 := u64_id (by omega) (by omega)
      obtain ⟨v, hv⟩ : ∃ v, v = x ^ (n / 2) % 2305843009213693951 := ⟨_, rfl⟩
      rw [← hv] at hr
      have hm := r1_Mul (a := v) (b := v) (by omega) (by omega) (by omega) (by omega)
      obtain ⟨u, hu⟩ : ∃ u, u = v * v % 2305843009213693951 := ⟨_, rfl⟩
      rw [← hu] at hm
      have hm2 := r1_Mul (a := u) (b := x) (by omega) (by omega) h0 h1
      have hu2 : u = x ^ (2 * (n / 2)) % 2305843009213693951 := by
        rw [hu, hv, ← Int.mul_emod, ← Int.pow_add]
        congr 2; omega
      by_cases d : (n : Int) % 2 = 1
      · have e : x ^ n % 2305843009213693951 = u * x % 2305843009213693951 := by
          rw [hu2, Int.mul_emod, Int.emod_emod_of_dvd _ (Int.dvd_refl _), ← Int.mul_emod, ← Int.pow_succ]
          congr 2; omega
        rw [e]
        simp -implicitDefEqProofs [Try.f70, c, bin_rem, bin_quo, t1, t2', hr, hm, hm2, d]
      · have d' : ((n : Int) % 2 == 1) = false := by simpa using d
        have e : x ^ n % 2305843009213693951 = u := by
          rw [hu2]
          congr 2; omega
        rw [e]
        simp -implicitDefEqProofs [Try.f70, c, bin_rem, bin_quo, t1, t2', hr, hm, d']

def cU (n : Int) : List CV := [.v (.int .u64 n)]
def hwords (s : ByteArray) : List Int := (List.range (nwords s)).map fun (q : Nat) => hword s (4 * (q : Int))
theorem hwords_len (s : ByteArray) : (hwords s).length = nwords s := by simp [hwords]

set_option maxRecDepth 10000 in
theorem r2_words {s : ByteArray} (hs : s.size ≤ 1000) : TV.pu 98 [cS s] = some (.one (.arr ((hwords s).map cU))) := by
  refine run98 (by simp) ?_
  simp -implicitDefEqProofs [Try.f98, vmove, isNil]
  obtain ⟨I, hI⟩ : ∃ I : Nat → St → Prop, ∀ k st, I k st ↔ (∃ e z E L, st = ⟨e, E :: .clo [] false :: L⟩ ∧ e 0 = vS z ∧ e 3 = .one (.sl 1 0 0 0) ∧ (∀ i : Int, 0 ≤ i → byt z i = byt s i) ∧ k = (4 - z.size % 4) % 4 ∧ z.size ≤ s.size + (4 - s.size % 4) % 4 ∧ s.size ≤ z.size) := ⟨_, fun _ _ => Iff.rfl⟩
  refine wpL_ind I ?_ ((4 - s.size % 4) % 4) _ ((hI _ _).2 ⟨_, s, _, _, rfl, by simp, by simp, fun _ _ => rfl, rfl, by omega, Nat.le_refl _⟩)
  intro k st hst
  obtain ⟨e, z, E, L, rfl, e0, e3, hz, hk, hz1, hz2⟩ := (hI _ _).1 hst
  have t1 : (z.size : Int).tmod 4 = ((z.size % 4 : Nat) : Int) := by rw [Int.tmod_eq_emod_of_nonneg (by omega)]; omega
  by_cases c : z.size % 4 = 0
  · have c1 : ((z.size : Int).tmod 4 != 0) = false := by rw [t1, c]; rfl
    have hzn : z.size = 4 * nwords s := by unfold nwords; omega
    simp -implicitDefEqProofs [e0, bin_rem, c1]
    obtain ⟨J, hJ⟩ : ∃ J : Nat → St → Prop, ∀ k st, J k st ↔ (∃ e j L, st = ⟨e, E :: .clo (tk cU (hwords s) j) false :: L⟩ ∧ e 0 = vS z ∧ e 3 = .one (.sl 1 0 j j) ∧ e 4 = vI .i64 (4 * (j : Nat) : Int) ∧ j + k = nwords s) := ⟨_, fun _ _ => Iff.rfl⟩
    refine wpL_ind J ?_ (nwords s) _ ((hJ _ _).2 ⟨_, 0, _, by rw [tk_zero], by simp [e0], by simp [e3], by simp, by omega⟩)
    intro k2 st2 hst2
    obtain ⟨e', j, L2, rfl, f0, f3, f4, hk2⟩ := (hJ _ _).1 hst2
    by_cases d : j < nwords s
    · have d' : 4 * (j : Int) < (z.size : Int) := by omega
      have g0 := byt_range z (4 * (j : Int)); have g1 := byt_range z (4 * (j : Int) + 1); have g2 := byt_range z (4 * (j : Int) + 2); have g3 := byt_range z (4 * (j : Int) + 3)
      have x0 := idx_str (P := Try.prog) us9 (s := z) (k := .i64) (i := 4 * (j : Int)) (by omega) d'
      have x1 := idx_str (P := Try.prog) us9 (s := z) (k := .i64) (i := 4 * (j : Int) + 1) (by omega) (by omega)
      have x2 := idx_str (P := Try.prog) us9 (s := z) (k := .i64) (i := 4 * (j : Int) + 2) (by omega) (by omega)
      have x3 := idx_str (P := Try.prog) us9 (s := z) (k := .i64) (i := 4 * (j : Int) + 3) (by omega) (by omega)
      have hw : hword s (4 * (j : Int)) = byt z (4 * (j : Int)) * 16777216 + byt z (4 * (j : Int) + 1) * 65536 + byt z (4 * (j : Int) + 2) * 256 + byt z (4 * (j : Int) + 3) := by
        rw [hz _ (by omega), hz _ (by omega), hz _ (by omega), hz _ (by omega)]
        unfold hword; omega
      have jl : j < (hwords s).length := by rw [hwords_len]; exact d
      have hwj : (hwords s)[j] = hword s (4 * (j : Int)) := by simp [hwords]
      have htl : (tk cU (hwords s) j).length = j := tk_len (by omega)
      have htm : AllLen (tk cU (hwords s) j) 1 := tk_allLen fun _ => rfl
      have htk : tk cU (hwords s) j ++ [[.v (.int .u64 (byt z (4 * (j : Int)) * 16777216 + byt z (4 * (j : Int) + 1) * 65536 + byt z (4 * (j : Int) + 2) * 256 + byt z (4 * (j : Int) + 3)))]] = tk cU (hwords s) (j + 1) := by
        rw [← tk_succ jl, hwj, hw]; rfl
      generalize byt z (4 * (j : Int)) = b0 at *
      generalize byt z (4 * (j : Int) + 1) = b1 at *
      generalize byt z (4 * (j : Int) + 2) = b2 at *
      generalize byt z (4 * (j : Int) + 3) = b3 at *
      have y1 : IntKind.i64.wrap (4 * (j : Int) + 1) = 4 * (j : Int) + 1 := w64_id (by omega) (by omega)
      have y2 : IntKind.i64.wrap (4 * (j : Int) + 2) = 4 * (j : Int) + 2 := w64_id (by omega) (by omega)
      have y3 : IntKind.i64.wrap (4 * (j : Int) + 3) = 4 * (j : Int) + 3 := w64_id (by omega) (by omega)
      have y4 : IntKind.i64.wrap (4 * (j : Int) + 4) = 4 * (j : Int) + 4 := w64_id (by omega) (by omega)
      have u0 : IntKind.u64.wrap b0 = b0 := u64_id g0.1 (by omega)
      have u1 : IntKind.u64.wrap b1 = b1 := u64_id g1.1 (by omega)
      have u2 : IntKind.u64.wrap b2 = b2 := u64_id g2.1 (by omega)
      have u3 : IntKind.u64.wrap b3 = b3 := u64_id g3.1 (by omega)
      have v0 : IntKind.u64.wrap (b0 * 16777216) = b0 * 16777216 := u64_id (by omega) (by omega)
      have v1 : IntKind.u64.wrap (b1 * 65536) = b1 * 65536 := u64_id (by omega) (by omega)
      have v2 : IntKind.u64.wrap (b2 * 256) = b2 * 256 := u64_id (by omega) (by omega)
      have v3 : IntKind.u64.wrap (b0 * 16777216 + b1 * 65536) = b0 * 16777216 + b1 * 65536 := u64_id (by omega) (by omega)
      have v4 : IntKind.u64.wrap (b0 * 16777216 + b1 * 65536 + b2 * 256) = b0 * 16777216 + b1 * 65536 + b2 * 256 := u64_id (by omega) (by omega)
      have v5 : IntKind.u64.wrap (b0 * 16777216 + b1 * 65536 + b2 * 256 + b3) = b0 * 16777216 + b1 * 65536 + b2 * 256 + b3 := u64_id (by omega) (by omega)
      have hsz : nwords s ≤ 300 := by unfold nwords; omega
      have b1 : 8 * (j + 1) ≤ 140737488355328 := by omega
      have b2 : j + 1 ≤ 4611686018427387904 := by omega
      simp -implicitDefEqProofs [f0, f3, f4, d', x0, x1, x2, x3, y1, y2, y3, y4, u0, u1, u2, u3, v0, v1, v2, v3, v4, v5, vappend_sp es138 es138 el22, vbuildSlice_eq es138 el22, cellsOf?, fzParts, setAll, rchParts, rch, elemsOf, htl, htm, htk, b1, b2]
      exact ⟨k2 - 1, by omega, (hJ _ _).2 ⟨_, j + 1, _, rfl, by simp [f0], by simp, by simp; omega, by omega⟩⟩
    · have d' : ¬ 4 * (j : Int) < (z.size : Int) := by omega
      have hj : j = (hwords s).length := by rw [hwords_len]; omega
      have hta := tk_all (f := cU) (l := hwords s) (i := j) (by omega)
      have hln := hwords_len s
      have htt : ((hwords s).map cU).take j = (hwords s).map cU := List.take_of_length_le (by simp; omega)
      simp -implicitDefEqProofs [f0, f3, f4, d', hta, htt, ← hj]
  · have c1 : ((z.size : Int).tmod 4 != 0) = true := by rw [t1]; simp; omega
    have hst0 : strOf [0] = ⟨#[0]⟩ := rfl
    have hza : z.size + (⟨#[0]⟩ : ByteArray).size ≤ 9223372036854775807 := by have : (⟨#[0]⟩ : ByteArray).size = 1 := rfl
                                                                              omega
    have hz3 : (z ++ ⟨#[0]⟩ : ByteArray).size = z.size + 1 := by simp; rfl
    simp -implicitDefEqProofs [e0, bin_rem, c1, sbin_add hza, vbuildSlice_eq es102 el5, cellsOf?, fzParts, setAll, rchParts, rch, elemsOf, vconvW, bytesRow', hst0]
    refine ⟨k - 1, by omega, (hI _ _).2 ⟨_, z ++ ⟨#[0]⟩, _, _, rfl, by simp, by simp [e3], fun i hi => ?_, by rw [hz3]; omega, by rw [hz3]; omega, by rw [hz3]; omega⟩⟩
    rw [byt_app _ _ _ hi]
    split
    · exact hz i hi
    · rename_i h
      rw [byt_out s i hi (by omega)]
      have : (⟨#[0]⟩ : ByteArray).size = 1 := rfl
      by_cases hq : i - z.size = 0
      · rw [hq]; rfl
      · exact byt_out _ _ (by omega) (by rw [this]; omega)

theorem r2_Sum {seed : Int} {s : ByteArray} (h0 : 0 ≤ seed) (h1 : seed < 18446744073709551616) (hs : s.size ≤ 1000) : TV.pu 80 [cI .u64 seed, cS s] = some (cI .u64 (hsum seed s)) := by
  refine run80 (by simp) ?_
  have ha := r1_Add (a := seed) (b := 2) h0 h1 (by omega) (by omega)
  have ew : IntKind.u64.wrap (s.size : Int) = s.size := u64_id (by omega) (by omega)
  have ho := r1_Of (a := (s.size : Int)) (by omega) (by omega)
  have hw := r2_words hs
  obtain ⟨a, hae⟩ : ∃ a, a = (seed + 2) % 2305843009213693951 := ⟨_, rfl⟩
  rw [← hae] at ha
  simp -implicitDefEqProofs [Try.f80, ha, ew, ho, hw]
  obtain ⟨I, hI⟩ : ∃ I : Nat → St → Prop, ∀ k s', I k s' ↔ (∃ e n, s' = ⟨e, []⟩ ∧ e 5 = vI .u64 a ∧ e 6 = vI .u64 (hpoly a s n) ∧ e 7 = .one (.c (.arr ((hwords s).map cU))) ∧ e 8 = vI .i64 (n : Nat) ∧ n + k = nwords s) := ⟨_, fun _ _ => Iff.rfl⟩
  refine wpL_ind I ?_ (nwords s) _ ((hI _ _).2 ⟨_, 0, rfl, by simp, by simp [hpoly], by simp, by simp, by omega⟩)
  intro k st hst
  obtain ⟨e, n, rfl, e5, e6, e7, e8, hk⟩ := (hI _ _).1 hst
  have hp := hpoly_range a s n
  have hln := hwords_len s
  by_cases c : n < nwords s
  · have hsz : nwords s ≤ 300 := by unfold nwords; omega
    have w1 : IntKind.i64.wrap ((n : Int) + 1) = ((n + 1 : Nat) : Int) := by rw [w64_id (by omega) (by omega)]; omega
    have hnl : n < (hwords s).length := by rw [hln]; exact c
    have hwj : (hwords s)[n] = hword s (4 * (n : Int)) := by simp [hwords]
    have hwr := hword_range s (4 * (n : Int))
    have hm := r1_Mul (a := a) (b := hpoly a s n) (by omega) (by omega) hp.1 (by omega)
    have h2 := r1_Add (a := hword s (4 * (n : Int))) (b := 1) (by omega) (by omega) (by omega) (by omega)
    obtain ⟨v, hv⟩ : ∃ v, v = a * hpoly a s n % 2305843009213693951 := ⟨_, rfl⟩
    obtain ⟨u, hu⟩ : ∃ u, u = (hword s (4 * (n : Int)) + 1) % 2305843009213693951 := ⟨_, rfl⟩
    rw [← hv] at hm
    rw [← hu] at h2
    have h3 := r1_Add (a := v) (b := u) (by omega) (by omega) (by omega) (by omega)
    have he : (v + u) % 2305843009213693951 = hpoly a s (n + 1) := by
      simp only [hpoly]
      rw [hv, hu, ← Int.add_emod, Int.mul_comm]
    rw [he] at h3
    simp -implicitDefEqProofs [e5, e6, e7, e8, c, hln, cU, hwj, hm, h2, h3, w1]
    exact ⟨k - 1, by omega, (hI _ _).2 ⟨_, n + 1, rfl, by simp [e5], by simp, by simp [e7], by simp, by omega⟩⟩
  · have hn : n = nwords s := by omega
    have hm := r1_Mul (a := a) (b := hpoly a s n) (by omega) (by omega) hp.1 (by omega)
    obtain ⟨v, hv⟩ : ∃ v, v = a * hpoly a s n % 2305843009213693951 := ⟨_, rfl⟩
    rw [← hv] at hm
    have hw := r1_Pow (x := v) (by omega) (by omega) 18 17 (by omega) (by omega)
    have he : v ^ 17 % 2305843009213693951 = hsum seed s := by
      unfold hsum
      rw [← hae, ← hn, hv, Int.mul_comm]
    simp only [Int.cast_ofNat_Int] at hw
    rw [he] at hw
    simp -implicitDefEqProofs [e5, e6, e7, e8, c, hln, hm, hw]
theorem r2_Row {s i : Int} (h0 : 0 ≤ s) (h1 : s < 18446744073709551616) (h2 : i < 9223372036854775808) (h3 : -9223372036854775808 ≤ i) : TV.pu 39 [cI .u64 s, cI .i64 i] = some (cI .u64 (hrow s i)) := by
  refine run39 (by simp) ?_
  obtain ⟨j, hj⟩ : ∃ j, j = if i < 0 then 0 else i := ⟨_, rfl⟩
  have hj0 : 0 ≤ j := by rw [hj]; split <;> omega
  have hj1 : j < 9223372036854775808 := by rw [hj]; split <;> omega
  obtain ⟨v1, h1'⟩ : ∃ v, v = (s + 3) % 2305843009213693951 := ⟨_, rfl⟩
  obtain ⟨v2, h2'⟩ : ∃ v, v = (j + 2) % 2305843009213693951 := ⟨_, rfl⟩
  obtain ⟨v3, h3'⟩ : ∃ v, v = v1 * v2 % 2305843009213693951 := ⟨_, rfl⟩
  obtain ⟨v4, h4'⟩ : ∃ v, v = (v3 + 5) % 2305843009213693951 := ⟨_, rfl⟩
  have e1 := r1_Add (a := s) (b := 3) h0 h1 (by omega) (by omega)
  have e2 := r1_Add (a := j) (b := 2) hj0 (by omega) (by omega) (by omega)
  have e3 := r1_Mul (a := v1) (b := v2) (by omega) (by omega) (by omega) (by omega)
  have e4 := r1_Add (a := v3) (b := 5) (by omega) (by omega) (by omega) (by omega)
  have e5 := r1_Pow (x := v4) (by omega) (by omega) 3 2 (by omega) (by omega)
  simp only [Int.cast_ofNat_Int] at e5
  rw [← h1'] at e1
  rw [← h2'] at e2
  rw [← h3'] at e3
  rw [← h4'] at e4
  have ew : IntKind.u64.wrap j = j := u64_id hj0 (by omega)
  have hv : hrow s i = v4 ^ 2 % 2305843009213693951 := by
    unfold hrow
    rw [← hj]
    have : v3 = (s + 3) * (j + 2) % 2305843009213693951 := by rw [h3', h1', h2', ← Int.mul_emod]
    have : v4 = ((s + 3) * (j + 2) + 5) % 2305843009213693951 := by omega
    rw [this]
  rw [hv]
  by_cases c : i < 0
  · have hj2 : j = 0 := by rw [hj, if_pos c]
    subst hj2
    simp -implicitDefEqProofs [Try.f39, c, e1, ew, e2, e3, e4, e5]
  · have hj2 : j = i := by rw [hj, if_neg c]
    subst hj2
    simp -implicitDefEqProofs [Try.f39, c, e1, ew, e2, e3, e4, e5]
theorem r2_Cell {seed n : Int} {s : ByteArray} (h0 : 0 ≤ seed) (h1 : seed < 18446744073709551616) (hs : s.size ≤ 1000) (hn : n < 9223372036854775808) : TV.pu 60 [cI .u64 seed, cS s, cI .i64 n] = some (cI .i64 (hcell seed s n)) := by
  refine run60 (by simp) ?_
  have hr := hsum_range seed s
  by_cases c : n < 1
  · simp [Try.f60, c, hcell]
  · have h2 := Int.emod_nonneg (hsum seed s) (show n ≠ 0 by omega)
    have h3 := Int.emod_lt_of_pos (hsum seed s) (show 0 < n by omega)
    have e1 : IntKind.u64.wrap n = n := u64_id (by omega) (by omega)
    have e2 : (hsum seed s).tmod n = hsum seed s % n := Int.tmod_eq_emod_of_nonneg hr.1
    have e3 : IntKind.i64.wrap (hsum seed s % n) = hsum seed s % n := w64_id (by omega) (by omega)
    have e4 : n ≠ 0 := by omega
    simp [Try.f60, c, hcell, r2_Sum h0 h1 hs, e1, bin_rem e4, e2, e3]
end Go.Proofs.YthhbkihhllflfaaF
end

section
/- Filters of keys: the program's and the document's. -/
namespace Go.Proofs.YthhbkihhllflfaaF
open Go Go.Proofs.Vm

def cB1 (b : Bool) : List CV := [.v (.bool b)]
def cF (seed h : Int) (bits : List Bool) : List CV := [.v (.int .u64 seed), .v (.int .i64 h), .arr (bits.map cB1)]
def fOk (h : Int) (bits : List Bool) : Bool := decide (1 ≤ h) && decide (h ≤ 7) && decide (1 ≤ bits.length) && decide (bits.length ≤ 256)
/-- A key's places. -/
def plc (seed h : Int) (key : ByteArray) (n : Nat) : List Int := (List.range h.toNat).map fun (i : Nat) => hcell (hrow seed (i : Int)) key (n : Int)
theorem plc_len (seed h : Int) (key : ByteArray) (n : Nat) : (plc seed h key n).length = h.toNat := by simp [plc]
theorem plc_mem {seed h : Int} {key : ByteArray} {n : Nat} (hn : 1 ≤ n) {p : Int} (hp : p ∈ plc seed h key n) : 0 ≤ p ∧ p < n := by
  obtain ⟨i, _, rfl⟩ := List.mem_map.1 hp
  exact hcell_range _ _ _ (by omega)
def addB (bits : List Bool) (ps : List Int) : List Bool := ps.foldl (fun b p => b.set p.toNat true) bits
theorem addB_len (ps : List Int) : ∀ bits, (addB bits ps).length = bits.length := by
  induction ps with
  | nil => intro b; rfl
  | cons p r ih => intro b; show (addB (b.set p.toNat true) r).length = _; rw [ih]; simp
theorem addB_snoc (bits : List Bool) (ps : List Int) (p : Int) : addB bits (ps ++ [p]) = (addB bits ps).set p.toNat true := by simp [addB]
theorem addB_get (ps : List Int) (hp : ∀ p ∈ ps, 0 ≤ p) : ∀ (bits : List Bool) (j : Nat) (h : j < bits.length), (addB bits ps)[j]? = some (bits[j] || ps.any fun p => decide (p = (j : Int))) := by
  induction ps with
  | nil => intro b j h; simp [addB, h]
  | cons p r ih =>
    intro b j h
    have h0 := hp p (by simp)
    show (addB (b.set p.toNat true) r)[j]? = _
    rw [ih (fun q hq => hp q (by simp [hq])) _ j (by simpa using h), List.getElem_set]
    congr 1
    by_cases c : p.toNat = j
    · have : p = (j : Int) := by omega
      simp [this]
    · have : ¬ p = (j : Int) := by omega
      simp [c, this]
def hasB (seed h : Int) (bits : List Bool) (key : ByteArray) : Bool := (plc seed h key bits.length).all fun p => bits.getD p.toNat false

theorem cB1_all (l : List Bool) : AllLen (l.map cB1) 1 := by intro x hx; obtain ⟨y, _, rfl⟩ := List.mem_map.1 hx; rfl
theorem take_b (l : List Bool) : (l.map cB1).take l.length = l.map cB1 := List.take_of_length_le (by simp)
theorem wr_bit (l : List Bool) (i : Nat) (b : Bool) : Ent.wrC (l.map cB1) i 0 [.v (.bool b)] = (l.set i b).map cB1 := by
  unfold Ent.wrC
  apply List.ext_getElem?
  intro j
  rw [List.getElem?_modify, List.getElem?_map, List.getElem?_map, List.getElem?_set]
  by_cases h : i = j
  · subst h
    cases hl : l[i]? with
    | none =>
      have := List.getElem?_eq_none_iff.1 hl
      simp; omega
    | some x =>
      have := (List.getElem?_eq_some_iff.1 hl).1
      simp [cB1, wr, this]
  · simp [h]

theorem bloom_Right (seed h : Int) (bits : List Bool) : TV.pu 58 [.agg (cF seed h bits)] = some (cB (fOk h bits)) := by
  refine run58 (by simp) ?_
  unfold fOk
  by_cases h1 : 1 ≤ h
  · by_cases h2 : h ≤ 7
    · by_cases h3 : 1 ≤ bits.length
      · have h3' : 1 ≤ (bits.length : Int) := by omega
        by_cases h4 : bits.length ≤ 256
        · have h4' : (bits.length : Int) ≤ 256 := by omega
          simp -implicitDefEqProofs [Try.f58, cF, h1, h2, h3, h3', h4, h4']
        · have h4' : ¬ (bits.length : Int) ≤ 256 := by omega
          simp -implicitDefEqProofs [Try.f58, cF, h1, h2, h3, h3', h4, h4']
      · have h3' : ¬ 1 ≤ (bits.length : Int) := by omega
        simp -implicitDefEqProofs [Try.f58, cF, h1, h2, h3, h3']
    · simp -implicitDefEqProofs [Try.f58, cF, h1, h2]
  · simp -implicitDefEqProofs [Try.f58, cF, h1]
theorem ref10_Right (seed h : Int) (bits : List Bool) : TV.pu 38 [.agg (cF seed h bits)] = some (cB (fOk h bits)) := by
  refine run38 (by simp) ?_
  unfold fOk
  by_cases h1 : 1 ≤ h
  · have g1 : 0 < h := by omega
    by_cases h2 : h ≤ 7
    · have g2 : h < 8 := by omega
      by_cases h3 : 1 ≤ bits.length
      · have h3' : 0 < bits.length := by omega
        have hne : bits ≠ [] := by rintro rfl; simp at h3
        by_cases h4 : bits.length ≤ 256
        · have h4' : (bits.length : Int) < 257 := by omega
          simp -implicitDefEqProofs [Try.f38, cF, h1, g1, h2, g2, h3, h3', h4, h4']
        · have h4' : ¬ (bits.length : Int) < 257 := by omega
          simp -implicitDefEqProofs [Try.f38, cF, h1, g1, h2, g2, h3, h3', h4, h4']
      · have hne : bits = [] := List.length_eq_zero_iff.1 (by omega)
        have h3' : ¬ 0 < bits.length := by omega
        simp -implicitDefEqProofs [Try.f38, cF, h1, g1, h2, g2, hne]
    · have g2 : ¬ h < 8 := by omega
      simp -implicitDefEqProofs [Try.f38, cF, h1, g1, h2, g2]
  · have g1 : ¬ 0 < h := by omega
    simp -implicitDefEqProofs [Try.f38, cF, h1, g1]

theorem fOk_iff {h : Int} {bits : List Bool} : fOk h bits = true ↔ 1 ≤ h ∧ h ≤ 7 ∧ 1 ≤ bits.length ∧ bits.length ≤ 256 := by
  unfold fOk; simp [and_assoc]

/-! A heap with more behind it. -/
theorem ap_get (H L : Hp) (j : Nat) : (H ++ L)[H.length + j]? = L[j]? := by rw [List.getElem?_append_right (by omega), Nat.add_sub_cancel_left]
theorem ap_get0 (H L : Hp) : (H ++ L)[H.length]? = L[0]? := ap_get H L 0
theorem ap_gete (H L : Hp) (j : Nat) (h : H.length + j < (H ++ L).length) : (H ++ L)[H.length + j]'h = L[j]'(by rw [List.length_append] at h; omega) := by
  rw [List.getElem_append_right (by omega)]; congr 1; omega
theorem ap_gete0 (H L : Hp) (h : H.length < (H ++ L).length) : (H ++ L)[H.length]'h = L[0]'(by rw [List.length_append] at h; omega) := ap_gete H L 0 h
theorem ap_set (H L : Hp) (j : Nat) (u : Ent) : (H ++ L).set (H.length + j) u = H ++ L.set j u := by rw [List.set_append_right _ _ (by omega), Nat.add_sub_cancel_left]
theorem ap_set0 (H L : Hp) (u : Ent) : (H ++ L).set H.length u = H ++ L.set 0 u := ap_set H L 0 u

set_option maxRecDepth 10000 in
theorem bloom_Places {seed h : Int} {bits : List Bool} {key : ByteArray} {H : Hp} {bc : Cell} (h0 : 0 ≤ seed) (h1 : seed < 18446744073709551616) (hs : key.size ≤ 140737488351232) (hf : fOk h bits = true)
    (hlen : ∀ L ty, vlen Try.prog (H ++ L) #[23] ty (.one bc) = qa (vI .i64 bits.length)) (hfz : ∀ L, fzc 5 (H ++ L) bc = some (.arr (bits.map cB1))) :
    ∃ a K, TV.S 63 [.agg [.c (.v (.int .u64 seed)), .c (.v (.int .i64 h)), bc], vS key] H = some (a, K) ∧ ∃ B E L, a = .one (.sl (H.length + 2) 0 h.toNat h.toNat) ∧ K = H ++ B :: E :: .clo ((plc seed h key bits.length).map cInt) false :: L := by
  refine runX63 (by simp) (by rintro a K ⟨B, E, L, -, rfl⟩; simp) ?_
  have hr := bloom_Right seed h bits
  simp only [cF] at hr
  obtain ⟨a1, a2, a3, a4⟩ := fOk_iff.1 hf
  rw [hf] at hr
  obtain ⟨m, rfl⟩ := Int.eq_ofNat_of_zero_le (show 0 ≤ h by omega)
  simp -implicitDefEqProofs [-fzc, fz_v, Try.f63, hr, vmove, isNil, hfz]
  obtain ⟨I, hI⟩ : ∃ I : Nat → St → Prop, ∀ k s', I k s' ↔ (∃ e i E L, s' = ⟨e, H ++ .opn [[.c (.v (.int .u64 seed)), .c (.v (.int .i64 m)), bc]] false :: E :: .clo (tk cInt (plc seed m key bits.length) i) false :: L⟩ ∧ e 1 = vS key ∧ e 2 = .one (.ptr ⟨H.length, 0, 0, 1⟩) ∧ e 5 = .one (.sl (H.length + 2) 0 i i) ∧ e 11 = vI .i64 (m : Nat) ∧ e 12 = vI .i64 (i : Nat) ∧ i + k = m) := ⟨_, fun _ _ => Iff.rfl⟩
  refine wpL_ind I ?_ m _ ((hI _ _).2 ⟨_, 0, _, _, by rw [tk_zero], by simp, by simp, by simp, by simp, by simp, by omega⟩)
  intro k st hst
  obtain ⟨e, i, E, L, rfl, e1, e2, e5, e11, e12, hk⟩ := (hI _ _).1 hst
  have hpl : (plc seed m key bits.length).length = m := by rw [plc_len]; rfl
  by_cases c : i < m
  · have w1 : IntKind.i64.wrap ((i : Int) + 1) = ((i + 1 : Nat) : Int) := by rw [w64_id (by omega) (by omega)]; omega
    have hrw := hash_Row (s := seed) (i := (i : Int)) h0 h1 (by omega) (by omega)
    have hrr := hrow_range seed (i : Int)
    have hcl := hash_Cell (seed := hrow seed (i : Int)) (s := key) (n := (bits.length : Int)) hrr.1 (by omega) hs (by omega)
    have il : i < (plc seed m key bits.length).length := by rw [hpl]; exact c
    have hat : (plc seed m key bits.length)[i] = hcell (hrow seed (i : Int)) key bits.length := by simp [plc]
    have htl : (tk cInt (plc seed m key bits.length) i).length = i := tk_len (by omega)
    have htm : AllLen (tk cInt (plc seed m key bits.length) i) 1 := tk_allLen fun _ => rfl
    have htk : tk cInt (plc seed m key bits.length) i ++ [[.v (.int .i64 (hcell (hrow seed (i : Int)) key bits.length))]] = tk cInt (plc seed m key bits.length) (i + 1) := by
      rw [← tk_succ il, hat]; rfl
    have b1 : 8 * (i + 1) ≤ 140737488355328 := by omega
    have b2 : i + 1 ≤ 4611686018427387904 := by omega
    simp -implicitDefEqProofs [-fzc, fz_v, e1, e2, e5, e11, e12, c, hrw, hcl, w1, hlen, vmove, isNil, vappend_sp es105 es105 el3, vbuildSlice_eq es105 el3, cellsOf?, fzParts, setAll, rchParts, rch, elemsOf, htl, htm, htk, b1, b2]
    exact ⟨k - 1, by omega, (hI _ _).2 ⟨_, i + 1, _, _, rfl, by simp [e1], by simp [e2], by simp, by simp [e11], by simp, by omega⟩⟩
  · have hi : i = m := by omega
    subst hi
    have hta := tk_all (f := cInt) (l := plc seed i key bits.length) (i := i) (by omega)
    rw [hta]
    simp -implicitDefEqProofs [e5, e11, e12, vmove, isNil]
/-- Of a filter that is not right there are none. -/
theorem bloom_Places_no {seed h : Int} {bits : List Bool} {key : ByteArray} {H : Hp} (hf : fOk h bits = false) : ∃ id L, TV.S 63 [.agg ((cF seed h bits).map .c), vS key] H = some (.one (.sl id 0 0 0), H ++ L) ∧ (H ++ L)[id]? = some (.clo [] false) := by
  have hr := bloom_Right seed h bits
  rw [hf] at hr
  simp only [cF] at hr
  refine ⟨H.length + 2, [.opn [(cF seed h bits).map .c] false, .clo [] false, .clo [] false], run63 (by simp) (by simp) ?_, by rw [ap_get]; rfl⟩
  simp -implicitDefEqProofs [Try.f63, cF, hr, vmove, isNil]

theorem index_ints {g : CV} {caps : List CV} {f : FuncId} (hg : g = .fn f caps) {p : Int → Bool} {r : List Int} (hp : ∀ n ∈ r, TV.pu f (cI .i64 n :: caps.map .one) = some (cB (p n))) (hl : r.length < 9223372036854775807) :
    TV.pu 82 [.one (.arr (r.map cInt)), .one g] = some (cI .i64 (idxF p r)) := by
  subst hg
  refine run82 (by simp) ?_
  simp [Try.f82]
  obtain ⟨I, hI⟩ : ∃ I : Nat → St → Prop, ∀ k s', I k s' ↔ (∃ e j, s' = ⟨e, []⟩ ∧ e 0 = .one (.c (.arr (r.map cInt))) ∧ e 1 = .one (.c (.fn f caps)) ∧ e 7 = vI .i64 r.length ∧ e 8 = vI .i64 (j : Nat) ∧ j + k = r.length ∧ ∀ q, q < j → ∀ x, r[q]? = some x → p x = false) := ⟨_, fun _ _ => Iff.rfl⟩
  refine wpL_ind I ?_ r.length _ ((hI _ _).2 ⟨_, 0, rfl, by simp, by simp, by simp, by simp, by omega, by simp⟩)
  intro k st hst
  obtain ⟨e, j, rfl, e0, e1, e7, e8, hk, hno⟩ := (hI _ _).1 hst
  by_cases c : j < r.length
  · have hx : r[j]? = some r[j] := List.getElem?_eq_getElem c
    have hpj := hp r[j] (List.getElem_mem c)
    have w1 : IntKind.i64.wrap ((j : Int) + 1) = ((j + 1 : Nat) : Int) := by rw [w64_id (by omega) (by omega)]; omega
    simp [e0, e1, e7, e8, c, hpj, w1, cInt]
    by_cases hj : p r[j] = true
    · simp [hj, idxF_at p r j c hj hno]
    · simp [hj]
      refine ⟨k - 1, by omega, (hI _ _).2 ⟨_, j + 1, rfl, by simp [e0], by simp [e1], by simp [e7], by simp, by omega, ?_⟩⟩
      intro q hq x hx2
      by_cases hqj : q = j
      · subst hqj
        rw [hx] at hx2
        cases hx2
        simpa using hj
      · exact hno q (by omega) x hx2
  · have c' : ¬ (j : Int) < (r.length : Int) := by omega
    simp [e0, e1, e7, e8, c']
    rw [idxF_none p r fun q hq => hno q (by omega)]
theorem contains_ints {g : CV} {caps : List CV} {f : FuncId} (hg : g = .fn f caps) {p : Int → Bool} {r : List Int} (hp : ∀ n ∈ r, TV.pu f (cI .i64 n :: caps.map .one) = some (cB (p n))) (hl : r.length < 9223372036854775807) :
    TV.pu 62 [.one (.arr (r.map cInt)), .one g] = some (cB (r.any p)) := by
  refine run62 (by simp) ?_
  have h := index_ints hg hp hl
  subst hg
  simp [Try.f62, h, idxF_ge] at h ⊢

theorem bloom_lam {seed h : Int} {bits : List Bool} {p : Int} (h0 : 0 ≤ p) (h1 : p < bits.length) : TV.pu 64 [cI .i64 p, .one (.cptr (cF seed h bits))] = some (cB (!bits.getD p.toNat false)) := by
  refine run64 (by simp) ?_
  have hlt : p.toNat < bits.length := by omega
  simp -implicitDefEqProofs [Try.f64, cF, cB1, h0, hlt, List.getD]
set_option maxRecDepth 10000 in
theorem bloom_Has {seed h : Int} {bits : List Bool} {key : ByteArray} (h0 : 0 ≤ seed) (h1 : seed < 18446744073709551616) (hs : key.size ≤ 140737488351232) : TV.pu 35 [.agg (cF seed h bits), cS key] = some (cB (fOk h bits && hasB seed h bits key)) := by
  refine run35 (by simp) ?_
  have hr := bloom_Right seed h bits
  simp only [cF] at hr
  cases hf : fOk h bits with
  | false =>
    rw [hf] at hr
    simp -implicitDefEqProofs [Try.f35, cF, hr]
  | true =>
    obtain ⟨a1, a2, a3, a4⟩ := fOk_iff.1 hf
    rw [hf] at hr
    obtain ⟨a, K, hp, B, E, L, rfl, rfl⟩ := bloom_Places (seed := seed) (h := h) (bits := bits) (key := key) (H := [.opn [(cF seed h bits).map .c] false]) (bc := .c (.arr (bits.map cB1))) h0 h1 hs hf (fun L ty => by simp) (fun L => rfl)
    have hc := contains_ints (g := .fn 64 [.cptr (cF seed h bits)]) rfl (p := fun p => !bits.getD p.toNat false) (r := plc seed h key bits.length) (fun p hpm => by
      have := plc_mem a3 hpm
      exact bloom_lam this.1 this.2) (by rw [plc_len]; omega)
    have he : ((plc seed h key bits.length).any fun p => !bits.getD p.toNat false) = !hasB seed h bits key := by
      unfold hasB; rw [List.all_eq_not_any_not]; simp
    have htt : ((plc seed h key bits.length).map cInt).take h.toNat = (plc seed h key bits.length).map cInt := List.take_of_length_le (by simp [plc_len])
    rw [he] at hc
    simp only [cF, List.map_cons, List.map_nil, List.cons_append, List.nil_append] at hc hp
    have hpl := plc_len seed h key bits.length
    simp -implicitDefEqProofs [Try.f35, cF, hr, hp, hc, hpl, htt]

theorem bool_Clone {r : List Bool} {H : Hp} (h0 : r ≠ []) (hl : r.length ≤ 100000) : TV.S 78 [.one (.c (.arr (r.map cB1)))] H = some (.one (.sl (H.length + 1) 0 r.length r.length), H ++ [.clo [] false, .clo (r.map cB1) false]) := by
  refine run78 (by simp) (by simp) ?_
  have ha := vappend_eq (P := Try.prog) (H := H ++ [.clo [] false, .clo [] false]) (t := 23) (tx := 23) (id := H.length + 1) (n := 0) (l := []) (xs := r.map cB1) (x := .one (.c (.arr (r.map cB1)))) es23 es23 el4
    (by simp) rfl rfl (by simp) (cB1_all r) (by simp; omega) (by simp; omega)
  obtain ⟨x, t, rfl⟩ : ∃ h t, r = h :: t := by cases r with | nil => exact absurd rfl h0 | cons h t => exact ⟨h, t, rfl⟩
  simp at ha
  simp [Try.f78, vmove, isNil, bin_sln es23, bs_zero es23 el4, ha]

set_option maxRecDepth 10000 in
theorem bloom_Add {seed h : Int} {bits : List Bool} {key : ByteArray} (h0 : 0 ≤ seed) (h1 : seed < 18446744073709551616) (hs : key.size ≤ 140737488351232) (hf : fOk h bits = true) : TV.pu 53 [.agg (cF seed h bits), cS key] = some (.agg (cF seed h (addB bits (plc seed h key bits.length)))) := by
  refine run53 (by simp) ?_
  obtain ⟨a1, a2, a3, a4⟩ := fOk_iff.1 hf
  obtain ⟨m, rfl⟩ := Int.eq_ofNat_of_zero_le (show 0 ≤ h by omega)
  have hne : bits ≠ [] := by rintro rfl; simp at a3
  have hcl := fun H => bool_Clone (r := bits) (H := H) hne (by omega)
  have htb := take_b bits
  have hlb : bits.length = (bits.map cB1).length := by simp
  obtain ⟨H0, hH0⟩ : ∃ H0 : Hp, H0 = [.opn [[.c (.v (.int .u64 seed)), .c (.v (.int .i64 m)), .sl 4 0 bits.length bits.length]] false, .opn [[.c (.v (.int .u64 0)), .c (.v (.int .i64 0)), .sl 2 0 0 0]] false, .clo [] false, .clo [] false, .clo (bits.map cB1) false] := ⟨_, rfl⟩
  obtain ⟨a, K, hp, B, E, L, rfl, rfl⟩ := bloom_Places (seed := seed) (h := (m : Int)) (bits := bits) (key := key) (H := H0) (bc := .sl 4 0 bits.length bits.length) h0 h1 hs hf (fun L ty => by subst hH0; simp) (fun L => by subst hH0; simp [take_b])
  have hpl : (plc seed m key bits.length).length = m := plc_len ..
  subst hH0
  simp only [List.cons_append, List.nil_append, List.length_cons, List.length_nil, Nat.zero_add, Nat.reduceAdd, Int.toNat_natCast] at hp
  simp -implicitDefEqProofs [Try.f53, cF, hcl, hp, hpl, vstore, cellsOf?, Ent.wrO, wr]
  obtain ⟨ps, hps⟩ : ∃ ps, ps = plc seed m key bits.length := ⟨_, rfl⟩
  have hmem : ∀ p ∈ ps, 0 ≤ p ∧ p < bits.length := fun p hp => plc_mem a3 (hps ▸ hp)
  rw [← hps] at hpl ⊢
  obtain ⟨I, hI⟩ : ∃ I : Nat → St → Prop, ∀ k s', I k s' ↔ (∃ e i X C D B E L, s' = ⟨e, .opn [[.c (.v (.int .u64 seed)), .c (.v (.int .i64 m)), .sl 4 0 bits.length bits.length]] false :: .opn [[.c (.v (.int .u64 0)), .c (.v (.int .i64 0)), X]] false :: C :: D :: .clo ((addB bits (ps.take i)).map cB1) false :: B :: E :: .clo (ps.map cInt) false :: L⟩ ∧
    e 2 = .one (.ptr ⟨0, 0, 0, 1⟩) ∧ e 4 = .one (.ptr ⟨1, 0, 0, 1⟩) ∧ e 13 = .one (.sl 7 0 m m) ∧ e 14 = vI .i64 (m : Nat) ∧ e 15 = vI .i64 (i : Nat) ∧ i + k = m) := ⟨_, fun _ _ => Iff.rfl⟩
  refine wpL_ind I ?_ m _ ((hI _ _).2 ⟨_, 0, _, _, _, _, _, _, rfl, by simp, by simp, by simp, by simp, by simp, by omega⟩)
  intro k st hst
  obtain ⟨e, i, X, C, D, B, E, L, rfl, e2, e4, e13, e14, e15, hk⟩ := (hI _ _).1 hst
  have hal : (addB bits (ps.take i)).length = bits.length := addB_len _ _
  by_cases c : i < m
  · have w1 : IntKind.i64.wrap ((i : Int) + 1) = ((i + 1 : Nat) : Int) := by rw [w64_id (by omega) (by omega)]; omega
    have il : i < ps.length := by rw [hpl]; exact c
    obtain ⟨q0, q1⟩ := hmem ps[i] (List.getElem_mem il)
    have q2 : ps[i].toNat < bits.length := by omega
    have hsn : (addB bits (ps.take i)).set ps[i].toNat true = addB bits (ps.take (i + 1)) := by
      rw [List.take_add_one, List.getElem?_eq_getElem il]
      exact (addB_snoc _ _ _).symm
    have hwb := wr_bit (addB bits (ps.take i)) ps[i].toNat true
    rw [hsn] at hwb
    simp -implicitDefEqProofs [-List.map_set, e2, e13, e14, e15, c, hpl, cInt, cB1, q0, q2, hal, hwb, w1, vstore, cellsOf?]
    exact ⟨k - 1, by omega, (hI _ _).2 ⟨_, i + 1, _, _, _, _, _, _, rfl, by simp [e2], by simp [e4], by simp [e13], by simp [e14], by simp, by omega⟩⟩
  · have hti : ps.take i = ps := List.take_of_length_le (by omega)
    have htb2 := take_b (addB bits ps)
    have hal2 := addB_len ps bits
    rw [hal2] at htb2
    rw [hti]
    simp -implicitDefEqProofs [e2, e4, e14, e15, c, vstore, cellsOf?, Ent.wrO, wr]
    simp -implicitDefEqProofs [qa, hal2, htb2]

/-! The document's. -/
theorem onB_get {seed h : Int} {key : ByteArray} {n : Nat} (hn : 1 ≤ n) (bits : List Bool) (hb : bits.length = n) (p : Nat) (hp : p < n) (hp2 : p < (addB (List.replicate n false) (plc seed h key n)).length) :
    (bits[p]'(by omega) || (addB (List.replicate n false) (plc seed h key n))[p]) = (addB bits (plc seed h key n))[p]'(by rw [addB_len]; omega) := by
  have h1 := addB_get (plc seed h key n) (fun q hq => (plc_mem hn hq).1) (List.replicate n false) p (by simp; exact hp)
  have h2 := addB_get (plc seed h key n) (fun q hq => (plc_mem hn hq).1) bits p (by omega)
  rw [List.getElem?_eq_getElem hp2] at h1
  rw [List.getElem?_eq_getElem (by rw [addB_len]; omega)] at h2
  rw [Option.some.inj h1, Option.some.inj h2]
  simp
set_option maxRecDepth 10000 in
theorem ref10_at {seed h : Int} {bits : List Bool} {key : ByteArray} (h0 : 0 ≤ seed) (h1 : seed < 18446744073709551616) (hs : key.size ≤ 1000) (hf : fOk h bits = true) : TV.pu 71 [.agg (cF seed h bits), cS key] = some (.one (.arr ((addB (List.replicate bits.length false) (plc seed h key bits.length)).map cB1))) := by
  refine run71 (by simp) ?_
  obtain ⟨a1, a2, a3, a4⟩ := fOk_iff.1 hf
  obtain ⟨m, rfl⟩ := Int.eq_ofNat_of_zero_le (show 0 ≤ h by omega)
  have hrep : List.replicate bits.length [CV.v (.bool false)] = (List.replicate bits.length false).map cB1 := by simp [cB1]
  have b1 : 1 * bits.length ≤ 140737488355328 := by omega
  have b1' : bits.length ≤ 140737488355328 := by omega
  have b2 : (bits.length : Int) ≤ 4611686018427387904 := by omega
  simp -implicitDefEqProofs [-List.map_replicate, Try.f71, cF, vmakeSlice_eq es23 el4, small, hrep, b1', b2]
  obtain ⟨ps, hps⟩ : ∃ ps, ps = plc seed m key bits.length := ⟨_, rfl⟩
  have hpl : ps.length = m := by rw [hps, plc_len]; rfl
  have hmem : ∀ p ∈ ps, 0 ≤ p ∧ p < bits.length := fun p hp => plc_mem a3 (hps ▸ hp)
  obtain ⟨z, hz⟩ : ∃ z, z = List.replicate bits.length false := ⟨_, rfl⟩
  have hzl : z.length = bits.length := by rw [hz]; simp
  rw [← hps, ← hz]
  obtain ⟨I, hI⟩ : ∃ I : Nat → St → Prop, ∀ k s', I k s' ↔ (∃ e i E L, s' = ⟨e, .opn [[.c (.v (.int .u64 seed)), .c (.v (.int .i64 m)), .c (.arr (bits.map cB1))]] false :: E :: .clo ((addB z (ps.take i)).map cB1) false :: L⟩ ∧ e 1 = vS key ∧ e 2 = .one (.ptr ⟨0, 0, 0, 1⟩) ∧ e 5 = .one (.sl 2 0 bits.length bits.length) ∧ e 6 = vI .i64 (i : Nat) ∧ i + k = m) := ⟨_, fun _ _ => Iff.rfl⟩
  refine wpL_ind I ?_ m _ ((hI _ _).2 ⟨_, 0, _, _, rfl, by simp, by simp, by simp, by simp, by omega⟩)
  intro k st hst
  obtain ⟨e, i, E, L, rfl, e1, e2, e5, e6, hk⟩ := (hI _ _).1 hst
  have hal : (addB z (ps.take i)).length = bits.length := by rw [addB_len, hzl]
  by_cases c : i < m
  · have w1 : IntKind.i64.wrap ((i : Int) + 1) = ((i + 1 : Nat) : Int) := by rw [w64_id (by omega) (by omega)]; omega
    have il : i < ps.length := by rw [hpl]; exact c
    obtain ⟨q0, q1⟩ := hmem ps[i] (List.getElem_mem il)
    have q2 : ps[i].toNat < bits.length := by omega
    have hrw := r2_Row (s := seed) (i := (i : Int)) h0 h1 (by omega) (by omega)
    have hrr := hrow_range seed (i : Int)
    have hcl := r2_Cell (seed := hrow seed (i : Int)) (s := key) (n := (bits.length : Int)) hrr.1 (by omega) hs (by omega)
    have hat : hcell (hrow seed (i : Int)) key bits.length = ps[i] := by simp [hps, plc]
    rw [hat] at hcl
    have hsn : (addB z (ps.take i)).set ps[i].toNat true = addB z (ps.take (i + 1)) := by
      rw [List.take_add_one, List.getElem?_eq_getElem il]
      exact (addB_snoc _ _ _).symm
    have hwb := wr_bit (addB z (ps.take i)) ps[i].toNat true
    rw [hsn] at hwb
    simp -implicitDefEqProofs [-List.map_set, e1, e2, e5, e6, c, hrw, hcl, cB1, q0, q2, hal, hwb, w1, vstore, cellsOf?]
    exact ⟨k - 1, by omega, (hI _ _).2 ⟨_, i + 1, _, _, rfl, by simp [e1], by simp [e2], by simp [e5], by simp, by omega⟩⟩
  · have hti : ps.take i = ps := List.take_of_length_le (by omega)
    have htb2 := take_b (addB z ps)
    have hal2 : (addB z ps).length = bits.length := by rw [addB_len, hzl]
    rw [hal2] at htb2
    rw [hti]
    simp -implicitDefEqProofs [e2, e5, e6, c, hal2, htb2]

set_option maxRecDepth 10000 in
theorem ref10_Add {seed h : Int} {bits : List Bool} {key : ByteArray} (h0 : 0 ≤ seed) (h1 : seed < 18446744073709551616) (hs : key.size ≤ 1000) (hf : fOk h bits = true) : TV.pu 57 [.agg (cF seed h bits), cS key] = some (.agg (cF seed h (addB bits (plc seed h key bits.length)))) := by
  refine run57 (by simp) ?_
  obtain ⟨a1, a2, a3, a4⟩ := fOk_iff.1 hf
  have hat := ref10_at (seed := seed) (h := h) (bits := bits) (key := key) h0 h1 hs hf
  have hon := fun p hp hp2 => onB_get (seed := seed) (h := h) (key := key) a3 bits rfl p hp hp2
  obtain ⟨on, hone⟩ : ∃ on, on = addB (List.replicate bits.length false) (plc seed h key bits.length) := ⟨_, rfl⟩
  obtain ⟨nb, hnb⟩ : ∃ nb, nb = addB bits (plc seed h key bits.length) := ⟨_, rfl⟩
  have hol : on.length = bits.length := by rw [hone, addB_len]; simp
  have hnl : nb.length = bits.length := by rw [hnb, addB_len]
  rw [← hone] at hat
  rw [← hnb]
  simp only [← hone, ← hnb] at hon
  simp only [cF] at hat
  simp -implicitDefEqProofs [Try.f57, cF, hat, vmove, isNil]
  obtain ⟨I, hI⟩ : ∃ I : Nat → St → Prop, ∀ k s', I k s' ↔ (∃ e i X C L, s' = ⟨e, .opn [[.c (.v (.int .u64 seed)), .c (.v (.int .i64 h)), .c (.arr (bits.map cB1))]] false :: .opn [[.c (.v (.int .u64 0)), .c (.v (.int .i64 0)), X]] false :: C :: .clo (tk cB1 nb i) false :: L⟩ ∧ e 2 = .one (.ptr ⟨0, 0, 0, 1⟩) ∧ e 4 = .one (.ptr ⟨1, 0, 0, 1⟩) ∧ e 5 = .one (.sl 3 0 i i) ∧ e 6 = .one (.c (.arr (on.map cB1))) ∧ e 7 = vI .i64 (i : Nat) ∧ i + k = bits.length) := ⟨_, fun _ _ => Iff.rfl⟩
  refine wpL_ind I ?_ bits.length _ ((hI _ _).2 ⟨_, 0, _, _, _, by rw [tk_zero], by simp, by simp, by simp, by simp, by simp, by omega⟩)
  intro k st hst
  obtain ⟨e, i, X, C, L, rfl, e2, e4, e5, e6, e7, hk⟩ := (hI _ _).1 hst
  by_cases c : i < bits.length
  · have w1 : IntKind.i64.wrap ((i : Int) + 1) = ((i + 1 : Nat) : Int) := by rw [w64_id (by omega) (by omega)]; omega
    have co : i < on.length := by omega
    have cn : i < nb.length := by omega
    have hh := hon i c co
    have htl : (tk cB1 nb i).length = i := tk_len (by omega)
    have htm : AllLen (tk cB1 nb i) 1 := tk_allLen fun _ => rfl
    have htk : ∀ b : Bool, b = nb[i] → tk cB1 nb i ++ [[.v (.bool b)]] = tk cB1 nb (i + 1) := by
      rintro b rfl
      rw [← tk_succ cn]; rfl
    have b1 : 1 * (i + 1) ≤ 140737488355328 := by omega
    have b1' : i + 1 ≤ 140737488355328 := by omega
    have b2 : i + 1 ≤ 4611686018427387904 := by omega
    cases hb : bits[i] with
    | true =>
      have htk' := htk true (by rw [← hh, hb]; rfl)
      simp -implicitDefEqProofs [e2, e5, e7, c, cB1, hb, w1, vmove, isNil, vappend_sp es23 es23 el4, vbuildSlice_eq es23 el4, cellsOf?, fzParts, setAll, rchParts, rch, elemsOf, htl, htm, htk', b1', b2]
      exact ⟨k - 1, by omega, (hI _ _).2 ⟨_, i + 1, _, _, _, rfl, by simp [e2], by simp [e4], by simp, by simp [e6], by simp, by omega⟩⟩
    | false =>
      have htk' := htk on[i] (by rw [← hh, hb]; rfl)
      simp -implicitDefEqProofs [e2, e5, e6, e7, c, co, cB1, hb, w1, vmove, isNil, vappend_sp es23 es23 el4, vbuildSlice_eq es23 el4, cellsOf?, fzParts, setAll, rchParts, rch, elemsOf, htl, htm, htk', b1', b2]
      exact ⟨k - 1, by omega, (hI _ _).2 ⟨_, i + 1, _, _, _, rfl, by simp [e2], by simp [e4], by simp, by simp [e6], by simp, by omega⟩⟩
  · have hi : i = bits.length := by omega
    subst hi
    have hta := tk_all (f := cB1) (l := nb) (i := bits.length) (by omega)
    have htb2 := take_b nb
    rw [hnl] at htb2
    rw [hta]
    simp -implicitDefEqProofs [e2, e4, e5, e7, vstore, cellsOf?, Ent.wrO, wr, vmove, isNil]
    simp -implicitDefEqProofs [qa, hnl, htb2]

theorem has_iff {seed hh : Int} {bits : List Bool} {key : ByteArray} (hn : 1 ≤ bits.length) : hasB seed hh bits key = true ↔ ∀ p, ∀ hp : p < bits.length, ∀ hp2 : p < (addB (List.replicate bits.length false) (plc seed hh key bits.length)).length, (addB (List.replicate bits.length false) (plc seed hh key bits.length))[p] = true → bits[p] = true := by
  have key0 := fun (p : Nat) (hp : p < bits.length) => addB_get (plc seed hh key bits.length) (fun q hq => (plc_mem hn hq).1) (List.replicate bits.length false) p (by simp; exact hp)
  unfold hasB
  rw [List.all_eq_true]
  constructor
  · intro h p hp hp2 hon
    have h1 := key0 p hp
    rw [List.getElem?_eq_getElem hp2, hon] at h1
    have h2 := Option.some.inj h1
    simp only [List.getElem_replicate, Bool.false_or] at h2
    obtain ⟨q, hq, hqp⟩ := List.any_eq_true.1 h2.symm
    have hqp : q = (p : Int) := of_decide_eq_true hqp
    have := h q hq
    rw [hqp, Int.toNat_natCast, List.getD_eq_getElem?_getD, List.getElem?_eq_getElem hp] at this
    exact this
  · intro h q hq
    obtain ⟨q0, q1⟩ := plc_mem hn hq
    have hp : q.toNat < bits.length := by omega
    have hp2 : q.toNat < (addB (List.replicate bits.length false) (plc seed hh key bits.length)).length := by rw [addB_len]; simp; exact hp
    have h1 := key0 q.toNat hp
    rw [List.getElem?_eq_getElem hp2] at h1
    have h2 := Option.some.inj h1
    rw [List.getD_eq_getElem?_getD, List.getElem?_eq_getElem hp]
    refine h _ hp hp2 ?_
    rw [h2]
    simp only [List.getElem_replicate, Bool.false_or]
    exact List.any_eq_true.2 ⟨q, hq, decide_eq_true (by omega)⟩
set_option maxRecDepth 10000 in
theorem ref10_Has {seed h : Int} {bits : List Bool} {key : ByteArray} (h0 : 0 ≤ seed) (h1 : seed < 18446744073709551616) (hs : key.size ≤ 1000) (hf : fOk h bits = true) : TV.pu 42 [.agg (cF seed h bits), cS key] = some (cB (hasB seed h bits key)) := by
  refine run42 (by simp) ?_
  obtain ⟨a1, a2, a3, a4⟩ := fOk_iff.1 hf
  have hat := ref10_at (seed := seed) (h := h) (bits := bits) (key := key) h0 h1 hs hf
  have hh := has_iff (seed := seed) (hh := h) (key := key) a3
  obtain ⟨on, hone⟩ : ∃ on, on = addB (List.replicate bits.length false) (plc seed h key bits.length) := ⟨_, rfl⟩
  have hol : on.length = bits.length := by rw [hone, addB_len]; simp
  rw [← hone] at hat
  simp only [← hone] at hh
  simp only [cF] at hat
  simp -implicitDefEqProofs [Try.f42, cF, hat]
  obtain ⟨I, hI⟩ : ∃ I : Nat → St → Prop, ∀ k s', I k s' ↔ (∃ e i L, s' = ⟨e, .opn [[.c (.v (.int .u64 seed)), .c (.v (.int .i64 h)), .c (.arr (bits.map cB1))]] false :: L⟩ ∧ e 2 = .one (.ptr ⟨0, 0, 0, 1⟩) ∧ e 5 = .one (.c (.arr (on.map cB1))) ∧ e 6 = vI .i64 (i : Nat) ∧ i + k = bits.length ∧ ∀ p, p < i → ∀ hp : p < bits.length, ∀ hp2 : p < on.length, on[p] = true → bits[p] = true) := ⟨_, fun _ _ => Iff.rfl⟩
  refine wpL_ind I ?_ bits.length _ ((hI _ _).2 ⟨_, 0, _, rfl, by simp, by simp, by simp, by omega, fun p h => absurd h (Nat.not_lt_zero _)⟩)
  intro k st hst
  obtain ⟨e, i, L, rfl, e2, e5, e6, hk, hall⟩ := (hI _ _).1 hst
  by_cases c : i < bits.length
  · have w1 : IntKind.i64.wrap ((i : Int) + 1) = ((i + 1 : Nat) : Int) := by rw [w64_id (by omega) (by omega)]; omega
    have co : i < on.length := by omega
    cases hb : bits[i] with
    | true =>
      simp -implicitDefEqProofs [e2, e6, c, cB1, hb, w1]
      refine ⟨k - 1, by omega, (hI _ _).2 ⟨_, i + 1, _, rfl, by simp [e2], by simp [e5], by simp, by omega, fun p hp q1 q2 q3 => ?_⟩⟩
      by_cases hpi : p = i
      · subst hpi; exact hb
      · exact hall p (by omega) q1 q2 q3
    | false =>
      cases ho : on[i] with
      | true =>
        have : hasB seed h bits key = false := by
          cases hB : hasB seed h bits key with
          | false => rfl
          | true => have := hh.1 hB i c co ho; rw [hb] at this; cases this
        rw [this]
        simp -implicitDefEqProofs [e2, e5, e6, c, co, cB1, hb, ho]
      | false =>
        simp -implicitDefEqProofs [e2, e5, e6, c, co, cB1, hb, ho, w1]
        refine ⟨k - 1, by omega, (hI _ _).2 ⟨_, i + 1, _, rfl, by simp [e2], by simp [e5], by simp, by omega, fun p hp q1 q2 q3 => ?_⟩⟩
        by_cases hpi : p = i
        · subst hpi; rw [ho] at q3; cases q3
        · exact hall p (by omega) q1 q2 q3
  · have : hasB seed h bits key = true := hh.2 fun p hp hp2 => hall p (by omega) hp hp2
    rw [this]
    simp -implicitDefEqProofs [e2, e6, c]

def eqF (s h : Int) (b : List Bool) (s' h' : Int) (b' : List Bool) : Bool := decide (s = s' ∧ h = h' ∧ b = b')
set_option maxRecDepth 10000 in
theorem ref10_Equal {s h s' h' : Int} {b b' : List Bool} (hl : b.length < 4611686018427387904) : TV.pu 41 [.agg (cF s h b), .agg (cF s' h' b')] = some (cB (eqF s h b s' h' b')) := by
  refine run41 (by simp) ?_
  by_cases c1 : s = s'
  · subst c1
    by_cases c2 : h = h'
    · subst c2
      by_cases c3 : b.length = b'.length
      · have c3' : (b.length : Int) = (b'.length : Int) := by omega
        simp -implicitDefEqProofs [Try.f41, cF, c3']
        obtain ⟨I, hI⟩ : ∃ I : Nat → St → Prop, ∀ k s0, I k s0 ↔ (∃ e i L, s0 = ⟨e, .opn [[.c (.v (.int .u64 s)), .c (.v (.int .i64 h)), .c (.arr (b.map cB1))]] false :: .opn [[.c (.v (.int .u64 s)), .c (.v (.int .i64 h)), .c (.arr (b'.map cB1))]] false :: L⟩ ∧ e 2 = .one (.ptr ⟨0, 0, 0, 1⟩) ∧ e 3 = .one (.ptr ⟨1, 0, 0, 1⟩) ∧ e 5 = vI .i64 (i : Nat) ∧ i + k = b.length ∧ ∀ p, p < i → ∀ hp : p < b.length, ∀ hp2 : p < b'.length, b[p] = b'[p]) := ⟨_, fun _ _ => Iff.rfl⟩
        refine wpL_ind I ?_ b.length _ ((hI _ _).2 ⟨_, 0, _, rfl, by simp, by simp, by simp, by omega, fun p h => absurd h (Nat.not_lt_zero _)⟩)
        intro k st hst
        obtain ⟨e, i, L, rfl, e2, e3, e5, hk, hall⟩ := (hI _ _).1 hst
        by_cases c : i < b.length
        · have w1 : IntKind.i64.wrap ((i : Int) + 1) = ((i + 1 : Nat) : Int) := by rw [w64_id (by omega) (by omega)]; omega
          have co : i < b'.length := by omega
          by_cases hb : b[i] = b'[i]
          · simp -implicitDefEqProofs [e2, e3, e5, c, co, cB1, hb, bin_bne ub4, w1]
            refine ⟨k - 1, by omega, (hI _ _).2 ⟨_, i + 1, _, rfl, by simp [e2], by simp [e3], by simp, by omega, fun p hp q1 q2 => ?_⟩⟩
            by_cases hpi : p = i
            · subst hpi; exact hb
            · exact hall p (by omega) q1 q2
          · have hf : eqF s h b s h b' = false := by
              unfold eqF
              simp only [decide_eq_false_iff_not]
              rintro ⟨-, -, rfl⟩; exact hb rfl
            have hb2 : (b[i] != b'[i]) = true := by simpa using hb
            rw [hf]
            simp -implicitDefEqProofs [e2, e3, e5, c, co, cB1, hb2, bin_bne ub4]
        · have hf : eqF s h b s h b' = true := by
            unfold eqF
            simp only [decide_eq_true_eq]
            exact ⟨trivial, trivial, List.ext_getElem c3 fun q q1 q2 => hall q (by omega) q1 q2⟩
          rw [hf]
          simp -implicitDefEqProofs [e2, e5, c]
      · have c3' : ¬ (b.length : Int) = (b'.length : Int) := by omega
        have hf : eqF s h b s h b' = false := by
          unfold eqF
          simp only [decide_eq_false_iff_not]
          rintro ⟨-, -, rfl⟩; exact c3 rfl
        rw [hf]
        simp -implicitDefEqProofs [Try.f41, cF, c3']
    · have hf : eqF s h b s h' b' = false := by
        unfold eqF
        simp only [decide_eq_false_iff_not]
        rintro ⟨-, rfl, -⟩; exact c2 rfl
      rw [hf]
      simp -implicitDefEqProofs [Try.f41, cF, c2]
  · have hf : eqF s h b s' h' b' = false := by
      unfold eqF
      simp only [decide_eq_false_iff_not]
      rintro ⟨rfl, -, -⟩; exact c1 rfl
    rw [hf]
    simp -implicitDefEqProofs [Try.f41, cF, c1]

set_option maxRecDepth 10000 in
theorem bloom_New {seed bits h : Int} (hb1 : 1 ≤ bits) (hb2 : bits ≤ 256) (hh1 : 1 ≤ h) (hh2 : h ≤ 7) : TV.pu 48 [cI .u64 seed, cI .i64 bits, cI .i64 h] = some (.tup [(true, cF seed h (List.replicate bits.toNat false)), (false, [.v (.int .i64 0)])]) := by
  refine run48 (by simp) ?_
  obtain ⟨n, rfl⟩ := Int.eq_ofNat_of_zero_le (show 0 ≤ bits by omega)
  have g1 : ¬ (n : Int) < 1 := by omega
  have g2 : ¬ 256 < (n : Int) := by omega
  have hrep : List.replicate n [CV.v (.bool false)] = (List.replicate n false).map cB1 := by simp [cB1]
  have hr := bloom_Right seed h (List.replicate n false)
  rw [show fOk h (List.replicate n false) = true from fOk_iff.2 ⟨hh1, hh2, by simp; omega, by simp; omega⟩] at hr
  have htb := take_b (List.replicate n false)
  rw [List.length_replicate] at htb
  have b1' : n ≤ 140737488355328 := by omega
  have b2 : (n : Int) ≤ 4611686018427387904 := by omega
  simp only [cF] at hr
  simp -implicitDefEqProofs [-List.map_replicate, Try.f48, cF, g1, g2, vmakeSlice_eq es23 el4, small, hrep, hr, htb, b1', b2, vstore, cellsOf?, Ent.wrO, wr, vmove, isNil]
  simp -implicitDefEqProofs [-List.map_replicate, qa, htb]
theorem bloom_New_arg {seed bits h : Int} (hb : ¬ (1 ≤ bits ∧ bits ≤ 256 ∧ 1 ≤ h ∧ h ≤ 7)) : TV.pu 48 [cI .u64 seed, cI .i64 bits, cI .i64 h] = some (.tup [(true, cF 0 0 []), (false, [.v (.int .i64 1)])]) := by
  refine run48 (by simp) ?_
  by_cases g1 : bits < 1
  · simp -implicitDefEqProofs [Try.f48, cF, g1, vstore, cellsOf?, Ent.wrO, wr, vmove, isNil]
    simp -implicitDefEqProofs [qa]
  · by_cases g2 : 256 < bits
    · simp -implicitDefEqProofs [Try.f48, cF, g1, g2, vstore, cellsOf?, Ent.wrO, wr, vmove, isNil]
      simp -implicitDefEqProofs [qa]
    · obtain ⟨n, rfl⟩ := Int.eq_ofNat_of_zero_le (show 0 ≤ bits by omega)
      have hrep : List.replicate n [CV.v (.bool false)] = (List.replicate n false).map cB1 := by simp [cB1]
      have hr := bloom_Right seed h (List.replicate n false)
      have hff : fOk h (List.replicate n false) = false := by
        cases hx : fOk h (List.replicate n false) with
        | false => rfl
        | true => have := fOk_iff.1 hx; omega
      rw [hff] at hr
      have htb := take_b (List.replicate n false)
      rw [List.length_replicate] at htb
      have b1' : n ≤ 140737488355328 := by omega
      have b2 : (n : Int) ≤ 4611686018427387904 := by omega
      simp only [cF] at hr
      simp -implicitDefEqProofs [-List.map_replicate, Try.f48, cF, g1, g2, vmakeSlice_eq es23 el4, small, hrep, hr, htb, b1', b2, vstore, cellsOf?, Ent.wrO, wr, vmove, isNil]
      simp -implicitDefEqProofs [qa]
end Go.Proofs.YthhbkihhllflfaaF
end

section
/- Radars: what a right one is; a key's place. -/
namespace Go.Proofs.YthhbkihhllflfaaF
open Go Go.Proofs.Vm

/-- A cell: the keys joined, flows, packets, bytes. -/
abbrev RCl := ByteArray × Int × Int × Int
def cCl (c : RCl) : List CV := [.v (.string c.1), .v (.int .i64 c.2.1), .v (.int .i64 c.2.2.1), .v (.int .i64 c.2.2.2)]
def cRw (l : List RCl) : CV := .arr (l.map cCl)
def cRws (rows : List (List RCl)) : CV := .arr (rows.map fun l => [cRw l])
structure Rad where
  s : Int
  fs : Int
  h : Int
  bits : List Bool
  rows : List (List RCl)
def cRad (r : Rad) : List CV := [.v (.int .u64 r.s), .v (.int .u64 r.fs), .v (.int .i64 r.h), .arr (r.bits.map cB1), cRws r.rows]
def fitB (n : Int) : Bool := decide (0 ≤ n) && decide (n ≤ 1099511627776)
def wrongB (c : RCl) : Bool := decide (c.1.size ≠ 37) || decide (c.2.1 < -1099511627776) || decide (1099511627776 < c.2.1) || !fitB c.2.2.1 || !fitB c.2.2.2

theorem rd_fits (n : Int) : TV.pu 51 [cI .i64 n] = some (cB (fitB n)) := by
  refine run51 (by simp) ?_
  unfold fitB
  by_cases h1 : 0 ≤ n <;> simp -implicitDefEqProofs [Try.f51, h1]
theorem rd_wrong (c : RCl) : TV.pu 55 [.agg (cCl c)] = some (cB (wrongB c)) := by
  refine run55 (by simp) ?_
  have f1 := rd_fits c.2.2.1
  have f2 := rd_fits c.2.2.2
  unfold wrongB
  by_cases h1 : c.1.size = 37
  · have h1' : (c.1.size : Int) = 37 := by omega
    by_cases h2 : c.2.1 < -1099511627776
    · simp -implicitDefEqProofs [Try.f55, cCl, h1, h2]
    · by_cases h3 : 1099511627776 < c.2.1
      · simp -implicitDefEqProofs [Try.f55, cCl, h1, h2, h3]
      · cases h4 : fitB c.2.2.1 with
        | false =>
          rw [h4] at f1
          simp -implicitDefEqProofs [Try.f55, cCl, h1, h2, h3, f1]
        | true =>
          rw [h4] at f1
          simp -implicitDefEqProofs [Try.f55, cCl, h1, h2, h3, f1, f2]
  · have h1' : ¬ (c.1.size : Int) = 37 := by omega
    simp -implicitDefEqProofs [Try.f55, cCl, h1, h1']

theorem index_cells {g : CV} {caps : List CV} {f : FuncId} (hg : g = .fn f caps) {p : RCl → Bool} {r : List RCl} (hp : ∀ n ∈ r, TV.pu f (.agg (cCl n) :: caps.map .one) = some (cB (p n))) (hl : r.length < 9223372036854775807) :
    TV.pu 73 [.one (cRw r), .one g] = some (cI .i64 (idxF p r)) := by
  subst hg
  refine run73 (by simp) ?_
  simp [Try.f73, cRw]
  obtain ⟨I, hI⟩ : ∃ I : Nat → St → Prop, ∀ k s', I k s' ↔ (∃ e j, s' = ⟨e, []⟩ ∧ e 0 = .one (.c (.arr (r.map cCl))) ∧ e 1 = .one (.c (.fn f caps)) ∧ e 7 = vI .i64 r.length ∧ e 8 = vI .i64 (j : Nat) ∧ j + k = r.length ∧ ∀ q, q < j → ∀ x, r[q]? = some x → p x = false) := ⟨_, fun _ _ => Iff.rfl⟩
  refine wpL_ind I ?_ r.length _ ((hI _ _).2 ⟨_, 0, rfl, by simp, by simp, by simp, by simp, by omega, by simp⟩)
  intro k st hst
  obtain ⟨e, j, rfl, e0, e1, e7, e8, hk, hno⟩ := (hI _ _).1 hst
  by_cases c : j < r.length
  · have hx : r[j]? = some r[j] := List.getElem?_eq_getElem c
    have hpj := hp r[j] (List.getElem_mem c)
    have w1 : IntKind.i64.wrap ((j : Int) + 1) = ((j + 1 : Nat) : Int) := by rw [w64_id (by omega) (by omega)]; omega
    simp only [cCl] at hpj
    simp [e0, e1, e7, e8, c, hpj, w1, cCl]
    by_cases hj : p r[j] = true
    · simp [hj, idxF_at p r j c hj hno]
    · simp [hj]
      refine ⟨k - 1, by omega, (hI _ _).2 ⟨_, j + 1, rfl, by simp [e0], by simp [e1], by simp [e7], by simp, by omega, ?_⟩⟩
      intro q hq x hx2
      by_cases hqj : q = j
      · subst hqj
        rw [hx] at hx2
        cases hx2
        simpa using hj
      · exact hno q (by omega) x hx2
  · have c' : ¬ (j : Int) < (r.length : Int) := by omega
    simp [e0, e1, e7, e8, c']
    rw [idxF_none p r fun q hq => hno q (by omega)]
theorem contains_cells {g : CV} {caps : List CV} {f : FuncId} (hg : g = .fn f caps) {p : RCl → Bool} {r : List RCl} (hp : ∀ n ∈ r, TV.pu f (.agg (cCl n) :: caps.map .one) = some (cB (p n))) (hl : r.length < 9223372036854775807) :
    TV.pu 46 [.one (cRw r), .one g] = some (cB (r.any p)) := by
  refine run46 (by simp) ?_
  have h := index_cells hg hp hl
  subst hg
  simp [Try.f46, h, idxF_ge, cRw] at h ⊢
theorem index_crows {g : CV} {caps : List CV} {f : FuncId} (hg : g = .fn f caps) {p : List RCl → Bool} {r : List (List RCl)} (hp : ∀ n ∈ r, TV.pu f (.one (cRw n) :: caps.map .one) = some (cB (p n))) (hl : r.length < 9223372036854775807) :
    TV.pu 72 [.one (cRws r), .one g] = some (cI .i64 (idxF p r)) := by
  subst hg
  refine run72 (by simp) ?_
  simp [Try.f72, cRws]
  obtain ⟨I, hI⟩ : ∃ I : Nat → St → Prop, ∀ k s', I k s' ↔ (∃ e j, s' = ⟨e, []⟩ ∧ e 0 = .one (.c (cRws r)) ∧ e 1 = .one (.c (.fn f caps)) ∧ e 7 = vI .i64 r.length ∧ e 8 = vI .i64 (j : Nat) ∧ j + k = r.length ∧ ∀ q, q < j → ∀ x, r[q]? = some x → p x = false) := ⟨_, fun _ _ => Iff.rfl⟩
  refine wpL_ind I ?_ r.length _ ((hI _ _).2 ⟨_, 0, rfl, by simp [cRws], by simp, by simp, by simp, by omega, by simp⟩)
  intro k st hst
  obtain ⟨e, j, rfl, e0, e1, e7, e8, hk, hno⟩ := (hI _ _).1 hst
  by_cases c : j < r.length
  · have hx : r[j]? = some r[j] := List.getElem?_eq_getElem c
    have hpj := hp r[j] (List.getElem_mem c)
    have w1 : IntKind.i64.wrap ((j : Int) + 1) = ((j + 1 : Nat) : Int) := by rw [w64_id (by omega) (by omega)]; omega
    simp only [cRw] at hpj
    simp [e0, e1, e7, e8, cRws, cRw, c, hpj, w1]
    by_cases hj : p r[j] = true
    · simp [hj, idxF_at p r j c hj hno]
    · simp [hj]
      refine ⟨k - 1, by omega, (hI _ _).2 ⟨_, j + 1, rfl, by simp [e0], by simp [e1], by simp [e7], by simp, by omega, ?_⟩⟩
      intro q hq x hx2
      by_cases hqj : q = j
      · subst hqj
        rw [hx] at hx2
        cases hx2
        simpa using hj
      · exact hno q (by omega) x hx2
  · have c' : ¬ (j : Int) < (r.length : Int) := by omega
    simp [e0, e1, e7, e8, c']
    rw [idxF_none p r fun q hq => hno q (by omega)]
theorem contains_crows {g : CV} {caps : List CV} {f : FuncId} (hg : g = .fn f caps) {p : List RCl → Bool} {r : List (List RCl)} (hp : ∀ n ∈ r, TV.pu f (.one (cRw n) :: caps.map .one) = some (cB (p n))) (hl : r.length < 9223372036854775807) :
    TV.pu 44 [.one (cRws r), .one g] = some (cB (r.any p)) := by
  refine run44 (by simp) ?_
  have h := index_crows hg hp hl
  subst hg
  simp [Try.f44, h, idxF_ge, cRws] at h ⊢

def rowW (rows : List (List RCl)) (r : List RCl) : Bool := decide (r.length < 1) || decide (256 < r.length) || decide (r.length ≠ (rows.headD []).length) || r.any wrongB
/-- Lengths that any memory has. -/
def Lens (r : Rad) : Prop := r.rows.length < 4611686018427387904 ∧ (∀ x ∈ r.rows, x.length < 4611686018427387904) ∧ r.bits.length < 4611686018427387904
def Seeds (r : Rad) : Prop := 0 ≤ r.s ∧ r.s < 18446744073709551616 ∧ 0 ≤ r.fs ∧ r.fs < 18446744073709551616
theorem rd_row {R : Rad} {r : List RCl} (hr : R.rows ≠ []) (hl : r.length < 9223372036854775807) : TV.pu 59 [.one (cRw r), .one (.cptr (cRad R))] = some (cB (rowW R.rows r)) := by
  refine run59 (by simp) ?_
  obtain ⟨rs, rfs, rh, rb, rows⟩ := R
  obtain ⟨h, t, rfl⟩ : ∃ h t, rows = h :: t := by cases rows with | nil => exact absurd rfl hr | cons h t => exact ⟨h, t, rfl⟩
  have hc := contains_cells (g := .fn 55 []) rfl (p := wrongB) (r := r) (fun n _ => rd_wrong n) hl
  simp only [cRw] at hc
  have hB : rowW (h :: t) r = (decide (r.length < 1) || decide (256 < r.length) || decide (r.length ≠ h.length) || r.any wrongB) := rfl
  rw [hB]
  by_cases h1 : (r.length : Int) < 1
  · have g1 : r.length < 1 := by omega
    rw [decide_eq_true g1, Bool.true_or, Bool.true_or, Bool.true_or]
    simp -implicitDefEqProofs [Try.f59, cRad, cRws, cRw, h1]
  · have g1 : ¬ r.length < 1 := by omega
    rw [decide_eq_false g1, Bool.false_or]
    by_cases h2 : 256 < (r.length : Int)
    · have g2 : 256 < r.length := by omega
      rw [decide_eq_true g2, Bool.true_or, Bool.true_or]
      simp -implicitDefEqProofs [Try.f59, cRad, cRws, cRw, h1, h2]
    · have g2 : ¬ 256 < r.length := by omega
      rw [decide_eq_false g2, Bool.false_or]
      by_cases h3 : (r.length : Int) = h.length
      · have g3 : ¬ r.length ≠ h.length := by omega
        rw [decide_eq_false g3, Bool.false_or]
        have h3' : ((r.length : Int) != (h.length : Int)) = false := by simp [h3]
        simp -implicitDefEqProofs [Try.f59, cRad, cRws, cRw, h1, h2, h3', hc]
      · have g3 : r.length ≠ h.length := by omega
        rw [decide_eq_true g3, Bool.true_or]
        have h3' : ((r.length : Int) != (h.length : Int)) = true := by simp; omega
        simp -implicitDefEqProofs [Try.f59, cRad, cRws, cRw, h1, h2, h3']

def rOk (r : Rad) : Bool := fOk r.h r.bits && decide (r.fs = hrow r.s 0) && decide (1 ≤ r.rows.length) && decide (r.rows.length ≤ 7) && !r.rows.any (rowW r.rows)
set_option maxRecDepth 10000 in
theorem rd_Right {R : Rad} (hs : Seeds R) (hl : Lens R) : TV.pu 29 [.agg (cRad R)] = some (cB (rOk R)) := by
  refine run29 (by simp) ?_
  obtain ⟨s, fs, h, bits, rows⟩ := R
  obtain ⟨s0, s1, s2, s3⟩ := hs
  obtain ⟨l1, l2, l3⟩ := hl
  dsimp only at s0 s1 s2 s3 l1 l2 l3
  have hf := bloom_Right fs h bits
  have hrw := hash_Row (s := s) (i := 0) s0 s1 (by omega) (by omega)
  have hc : rows ≠ [] → TV.pu 44 [.one (cRws rows), .one (.fn 59 [.cptr (cRad ⟨s, fs, h, bits, rows⟩)])] = some (cB (rows.any (rowW rows))) := fun hr =>
    contains_crows rfl (fun n hn => rd_row (R := ⟨s, fs, h, bits, rows⟩) hr (by have := l2 n hn; omega)) (by omega)
  simp only [cF] at hf
  unfold rOk
  dsimp only
  cases c1 : fOk h bits with
  | false =>
    rw [c1] at hf
    simp -implicitDefEqProofs [Try.f29, cRad, cRws, hf]
  | true =>
    rw [c1] at hf
    by_cases c2 : fs = hrow s 0
    · subst c2
      by_cases c3 : 1 ≤ rows.length
      · have c3' : ¬ (rows.length : Int) < 1 := by omega
        have hr : rows ≠ [] := by rintro rfl; simp at c3
        by_cases c4 : rows.length ≤ 7
        · have c4' : ¬ 7 < (rows.length : Int) := by omega
          have hc := hc hr
          simp only [cRad, cRws] at hc
          simp -implicitDefEqProofs [Try.f29, cRad, cRws, hf, hrw, c3, c3', c4, c4', hc]
        · have c4' : 7 < (rows.length : Int) := by omega
          simp -implicitDefEqProofs [Try.f29, cRad, cRws, hf, hrw, c3, c3', c4, c4']
      · have c3' : (rows.length : Int) < 1 := by omega
        simp -implicitDefEqProofs [Try.f29, cRad, cRws, hf, hrw, c3, c3']
    · simp -implicitDefEqProofs [Try.f29, cRad, cRws, hf, hrw, c2]

theorem rOk_facts {r : Rad} (h : rOk r = true) : fOk r.h r.bits = true ∧ r.fs = hrow r.s 0 ∧ 1 ≤ r.rows.length ∧ r.rows.length ≤ 7 ∧ ∀ x ∈ r.rows, 1 ≤ x.length ∧ x.length ≤ 256 ∧ x.length = (r.rows.headD []).length ∧ ∀ c ∈ x, wrongB c = false := by
  unfold rOk at h
  simp only [Bool.and_eq_true, decide_eq_true_eq, Bool.not_eq_true'] at h
  obtain ⟨⟨⟨⟨h1, h2⟩, h3⟩, h4⟩, h5⟩ := h
  refine ⟨h1, h2, h3, h4, fun x hx => ?_⟩
  have := List.any_eq_false.1 h5 x hx
  unfold rowW at this
  simp only [Bool.or_eq_true, decide_eq_true_eq, not_or, Bool.not_eq_true] at this
  obtain ⟨⟨⟨a1, a2⟩, a3⟩, a4⟩ := this
  refine ⟨by omega, by omega, by omega, fun c hc => ?_⟩
  have := List.any_eq_false.1 a4 c hc
  simpa using this

/-- A key's place in a row. -/
def rplc (r : Rad) (key : ByteArray) (i : Nat) (n : Nat) : Int := hcell (hrow r.s ((i : Int) + 1)) key (n : Int)
theorem rd_place {R : Rad} {key : ByteArray} {i : Nat} (hs : Seeds R) (hl : Lens R) (hi : i < R.rows.length) (hk : key.size ≤ 140737488351232) : TV.pu 34 [.agg (cRad R), cS key, cI .i64 i] = some (cI .i64 (rplc R key i R.rows[i].length)) := by
  refine run34 (by simp) ?_
  obtain ⟨s, fs, h, bits, rows⟩ := R
  obtain ⟨s0, s1, s2, s3⟩ := hs
  obtain ⟨l1, l2, l3⟩ := hl
  dsimp only at s0 s1 s2 s3 l1 l2 l3 hi ⊢
  have w1 : IntKind.i64.wrap ((i : Int) + 1) = (i : Int) + 1 := w64_id (by omega) (by omega)
  have hrw := hash_Row (s := s) (i := (i : Int) + 1) s0 s1 (by omega) (by omega)
  have hrr := hrow_range s ((i : Int) + 1)
  have hcl := hash_Cell (seed := hrow s ((i : Int) + 1)) (s := key) (n := (rows[i].length : Int)) hrr.1 (by omega) hk (by have := l2 _ (List.getElem_mem hi); omega)
  simp -implicitDefEqProofs [Try.f34, cRad, cRws, cRw, w1, hi, hrw, hcl, rplc]
theorem rplc_range {r : Rad} {key : ByteArray} {i n : Nat} (h : 1 ≤ n) : 0 ≤ rplc r key i n ∧ rplc r key i n < n := hcell_range _ _ _ (by omega)
end Go.Proofs.YthhbkihhllflfaaF
end

section
/- Keys joined, by the program and by the document. -/
namespace Go.Proofs.YthhbkihhllflfaaF
open Go Go.Proofs.Vm

def cU8 (n : Int) : List CV := [.v (.int .u8 n)]
def xb (a b : ByteArray) (i : Nat) : Int := Go.bits .xor .u8 (byt a i) (byt b i)
def xorL (a b : ByteArray) : List Int := (List.range a.size).map fun (i : Nat) => xb a b i
def xorK (a b : ByteArray) : ByteArray := strOf (xorL a b)
/-- The first so many joined. -/
def xorP (a b : ByteArray) (k : Nat) : List Int := (List.range a.size).map fun (i : Nat) => if i < k then xb a b i else byt a i
theorem xorL_len (a b : ByteArray) : (xorL a b).length = a.size := by simp [xorL]
theorem xorP_len (a b : ByteArray) (k : Nat) : (xorP a b k).length = a.size := by simp [xorP]
theorem xorP_zero (a b : ByteArray) : bytesOf a = (xorP a b 0).map cU8 := by
  unfold bytesOf xorP
  apply List.ext_getElem
  · rw [List.length_map, List.length_map, List.length_map, List.length_range, Array.length_toList]; rfl
  · intro i h1 h2
    have h : i < a.size := by simpa using h2
    simp only [List.getElem_map, List.getElem_range, Nat.not_lt_zero, if_false, cU8]
    unfold byt
    rw [Int.toNat_natCast, getElem?_pos a i h]
    rfl
theorem xorP_all (a b : ByteArray) : xorP a b a.size = xorL a b := by
  unfold xorP xorL
  apply List.map_congr_left
  intro i hi
  rw [if_pos (List.mem_range.1 hi)]
theorem xorP_at (a b : ByteArray) (k : Nat) (h : k < (xorP a b k).length) : (xorP a b k)[k] = byt a k := by simp [xorP]
theorem xorP_set (a b : ByteArray) (k : Nat) : (xorP a b k).set k (xb a b k) = xorP a b (k + 1) := by
  apply List.ext_getElem
  · simp [xorP]
  · intro j h1 h2
    rw [List.getElem_set]
    simp only [xorP, List.getElem_map, List.getElem_range]
    by_cases hj : k = j
    · subst hj; simp
    · rw [if_neg hj]
      by_cases hj2 : j < k
      · rw [if_pos hj2, if_pos (by omega)]
      · rw [if_neg hj2, if_neg (by omega)]
theorem bytesRow_u8 : ∀ l : List Int, bytesRow' (l.map cU8) = some l
  | [] => rfl
  | x :: l => by
    show (bytesRow' (l.map cU8)).map (x :: ·) = _
    rw [bytesRow_u8 l]; rfl
theorem wr_u8 (l : List Int) (i : Nat) (b : Int) : Ent.wrC (l.map cU8) i 0 [.v (.int .u8 b)] = (l.set i b).map cU8 := by
  unfold Ent.wrC
  apply List.ext_getElem?
  intro j
  rw [List.getElem?_modify, List.getElem?_map, List.getElem?_map, List.getElem?_set]
  by_cases h : i = j
  · subst h
    cases hl : l[i]? with
    | none =>
      have := List.getElem?_eq_none_iff.1 hl
      simp; omega
    | some x =>
      have := (List.getElem?_eq_some_iff.1 hl).1
      simp [cU8, wr, this]
  · simp [h]

set_option maxRecDepth 10000 in
theorem rd_xor {a b : ByteArray} (h0 : 0 < a.size) (h1 : a.size ≤ b.size) (h2 : a.size ≤ 1000) : TV.pu 54 [cS a, cS b] = some (.one (.v (.string (xorK a b)))) := by
  refine run54 (by simp) ?_
  have hne : ¬ a.size = 0 := by omega
  have hz := xorP_zero a b
  have hz0 := xorP_len a b 0
  simp -implicitDefEqProofs [Try.f54, vconvW, hne, hz, hz0]
  obtain ⟨I, hI⟩ : ∃ I : Nat → St → Prop, ∀ k s', I k s' ↔ (∃ e i L, s' = ⟨e, .clo ((xorP a b i).map cU8) false :: L⟩ ∧ e 1 = vS b ∧ e 5 = .one (.sl 0 0 a.size a.size) ∧ e 10 = vI .i64 a.size ∧ e 11 = vI .i64 (i : Nat) ∧ i + k = a.size) := ⟨_, fun _ _ => Iff.rfl⟩
  refine wpL_ind I ?_ a.size _ ((hI _ _).2 ⟨_, 0, _, rfl, by simp, by simp, by simp, by simp, by omega⟩)
  intro k st hst
  obtain ⟨e, i, L, rfl, e1, e5, e10, e11, hk⟩ := (hI _ _).1 hst
  have hpl := xorP_len a b i
  by_cases c : i < a.size
  · have w1 : IntKind.i64.wrap ((i : Int) + 1) = ((i + 1 : Nat) : Int) := by rw [w64_id (by omega) (by omega)]; omega
    have cl : i < (xorP a b i).length := by rw [hpl]; exact c
    have hat := xorP_at a b i cl
    have hx := idx_str (P := Try.prog) us9 (s := b) (k := .i64) (i := (i : Int)) (by omega) (by omega)
    have hw := wr_u8 (xorP a b i) i (xb a b i)
    rw [xorP_set] at hw
    simp only [xb] at hw
    simp -implicitDefEqProofs [-List.map_set, e1, e5, e10, e11, c, hpl, cU8, hat, hx, hw, w1, vstore, cellsOf?]
    exact ⟨k - 1, by omega, (hI _ _).2 ⟨_, i + 1, _, rfl, by simp [e1], by simp [e5], by simp [e10], by simp, by omega⟩⟩
  · have hi : i = a.size := by omega
    subst hi
    have hbr := bytesRow_u8 (xorL a b)
    have htk : ((xorL a b).map cU8).take a.size = (xorL a b).map cU8 := List.take_of_length_le (by simp [xorL_len])
    have hxl := xorL_len a b
    rw [xorP_all]
    simp -implicitDefEqProofs [e5, e10, e11, vconvW, elemsOf, hxl, htk, hbr, xorK]

theorem strOf_snoc (l : List Int) (x : Int) : strOf (l ++ [x]) = strOf l ++ strOf [x] := by
  unfold strOf
  rw [List.foldl_append]
  simp only [List.foldl_cons, List.foldl_nil]
  generalize List.foldl _ ByteArray.empty l = r
  have : ∀ b : UInt8, r.push b = r ++ ByteArray.empty.push b := fun b => by
    apply ByteArray.ext
    simp
  exact this _
theorem strOf_size (l : List Int) : (strOf l).size = l.length := by
  have key : ∀ (l : List Int) (r : ByteArray), (l.foldl (fun r n => r.push (UInt8.ofNat n.toNat)) r).size = r.size + l.length := by
    intro l
    induction l with
    | nil => intro r; simp
    | cons x l ih =>
      intro r
      rw [List.foldl_cons, ih]
      simp; omega
  unfold strOf
  rw [key]
  have : ByteArray.empty.size = 0 := rfl
  omega
theorem xorK_size (a b : ByteArray) : (xorK a b).size = a.size := by unfold xorK; rw [strOf_size, xorL_len]

set_option maxRecDepth 10000 in
theorem r16_xor {a b : ByteArray} (h1 : a.size ≤ b.size) (h2 : a.size ≤ 1000) : TV.pu 79 [cS a, cS b] = some (.one (.v (.string (xorK a b)))) := by
  refine run79 (by simp) ?_
  simp -implicitDefEqProofs [Try.f79]
  obtain ⟨I, hI⟩ : ∃ I : Nat → St → Prop, ∀ k s', I k s' ↔ (∃ e i L, s' = ⟨e, L⟩ ∧ e 0 = vS a ∧ e 1 = vS b ∧ e 5 = vS (strOf ((xorL a b).take i)) ∧ e 6 = vI .i64 (i : Nat) ∧ i + k = a.size) := ⟨_, fun _ _ => Iff.rfl⟩
  refine wpL_ind I ?_ a.size _ ((hI _ _).2 ⟨_, 0, _, rfl, by simp, by simp, by simp; rfl, by simp, by omega⟩)
  intro k st hst
  obtain ⟨e, i, L, rfl, e0, e1, e5, e6, hk⟩ := (hI _ _).1 hst
  have hxl := xorL_len a b
  by_cases c : i < a.size
  · have w1 : IntKind.i64.wrap ((i : Int) + 1) = ((i + 1 : Nat) : Int) := by rw [w64_id (by omega) (by omega)]; omega
    have il : i < (xorL a b).length := by rw [hxl]; exact c
    have hat : (xorL a b)[i] = Go.bits .xor .u8 (byt a i) (byt b i) := by simp [xorL, xb]
    have hx := idx_str (P := Try.prog) us9 (s := a) (k := .i64) (i := (i : Int)) (by omega) (by omega)
    have hy := idx_str (P := Try.prog) us9 (s := b) (k := .i64) (i := (i : Int)) (by omega) (by omega)
    have htk : (xorL a b).take (i + 1) = (xorL a b).take i ++ [Go.bits .xor .u8 (byt a i) (byt b i)] := by
      rw [List.take_add_one, List.getElem?_eq_getElem il, ← hat]; rfl
    have hsn := strOf_snoc ((xorL a b).take i) (Go.bits .xor .u8 (byt a i) (byt b i))
    rw [← htk] at hsn
    have hsz : (strOf ((xorL a b).take i)).size + (strOf [Go.bits .xor .u8 (byt a i) (byt b i)]).size ≤ 9223372036854775807 := by
      rw [strOf_size, strOf_size]
      simp; omega
    simp -implicitDefEqProofs [e0, e1, e5, e6, c, hx, hy, w1, sbin_add hsz, ← hsn, vbuildSlice_eq es102 el5, cellsOf?, fzParts, setAll, rchParts, rch, elemsOf, vconvW, bytesRow']
    exact ⟨k - 1, by omega, (hI _ _).2 ⟨_, i + 1, _, rfl, by simp [e0], by simp [e1], by simp, by simp, by omega⟩⟩
  · have hti : (xorL a b).take i = xorL a b := List.take_of_length_le (by omega)
    rw [hti] at e5
    simp -implicitDefEqProofs [e0, e5, e6, c, xorK]
end Go.Proofs.YthhbkihhllflfaaF
end

section
/- A radar's rows in new memory. -/
set_option maxRecDepth 8192
set_option maxHeartbeats 1000000
namespace Go.Proofs.YthhbkihhllflfaaF
open Go Go.Proofs.Vm

theorem cells_Clone {r : List RCl} {H : Hp} (h0 : r ≠ []) (hl : r.length ≤ 1000000) : TV.S 77 [.one (.c (cRw r))] H = some (.one (.sl (H.length + 1) 0 r.length r.length), H ++ [.clo [] false, .clo (r.map cCl) false]) := by
  refine run77 (by simp) (by simp) ?_
  have ha := vappend_eq (P := Try.prog) (H := H ++ [.clo [] false, .clo [] false]) (t := 72) (tx := 72) (id := H.length + 1) (n := 0) (l := []) (xs := r.map cCl) (x := .one (.c (.arr (r.map cCl)))) es72 es72 el74
    (by simp) rfl rfl (by simp) (by intro e he; obtain ⟨c, -, rfl⟩ := List.mem_map.1 he; rfl) (by simp; omega) (by simp; omega)
  obtain ⟨x, t, rfl⟩ : ∃ h t, r = h :: t := by cases r with | nil => exact absurd rfl h0 | cons h t => exact ⟨h, t, rfl⟩
  simp at ha
  simp [Try.f77, cRw, vmove, isNil, bin_sln es72, bs_zero es72 el74, ha]

def cl (rows : List (List RCl)) : List Ent := (rows.map fun r => [Ent.clo [] false, .clo (r.map cCl) false]).flatten
theorem cl_len (rows : List (List RCl)) : (cl rows).length = 2 * rows.length := by
  induction rows with
  | nil => rfl
  | cons r t ih => simp only [cl, List.map_cons, List.flatten_cons, List.length_append] at ih ⊢; rw [ih]; simp; omega
theorem cl_take (rows : List (List RCl)) (i : Nat) (h : i < rows.length) : cl (rows.take (i + 1)) = cl (rows.take i) ++ [Ent.clo [] false, .clo (rows[i].map cCl) false] := by
  rw [List.take_add_one, List.getElem?_eq_getElem h]
  simp only [cl, Option.toList_some, List.map_append, List.flatten_append, List.map_cons, List.map_nil, List.flatten_cons, List.flatten_nil, List.append_nil]
def clRows (b : Nat) (rows : List (List RCl)) (i : Nat) : List (List Cell) := rows.mapIdx fun j r => if j < i then [.sl (b + (6 + 2 * j)) 0 r.length r.length] else [.c (.arr [])]
theorem clRows_len (b : Nat) (rows : List (List RCl)) (i : Nat) : (clRows b rows i).length = rows.length := by simp [clRows]
theorem clRows_zero (b : Nat) (rows : List (List RCl)) : clRows b rows 0 = List.replicate rows.length [.c (.arr [])] := by
  apply List.ext_getElem
  · simp [clRows]
  · intro j h1 h2
    simp [clRows]
theorem clRows_at (b : Nat) (rows : List (List RCl)) (i : Nat) (h : i < rows.length) : (clRows b rows i)[i]? = some [.c (.arr [])] := by
  simp [clRows, h]
theorem clRows_set (b : Nat) (rows : List (List RCl)) (i : Nat) (h : i < rows.length) : (clRows b rows i).set i [.sl (b + (6 + 2 * i)) 0 rows[i].length rows[i].length] = clRows b rows (i + 1) := by
  apply List.ext_getElem
  · simp [clRows]
  · intro j h1 h2
    rw [List.getElem_set]
    simp only [clRows, List.getElem_mapIdx]
    by_cases hj : i = j
    · subst hj; simp
    · rw [if_neg hj]
      by_cases hj2 : j < i
      · rw [if_pos hj2, if_pos (by omega)]
      · rw [if_neg hj2, if_neg (by omega)]
theorem clRows_modify (b : Nat) (rows : List (List RCl)) (i : Nat) (_h : i < rows.length) (x : Cell) : ((clRows b rows i).modify i fun e => wr e 0 [x]) = (clRows b rows i).set i [x] := by
  apply List.ext_getElem
  · simp
  · intro j h1 h2
    rw [List.getElem_modify, List.getElem_set]
    by_cases hj : i = j
    · subst hj
      simp [clRows, wr]
    · rw [if_neg hj, if_neg hj]

theorem cl_get (rows : List (List RCl)) (j : Nat) : (cl rows)[2 * j + 1]? = rows[j]?.map fun r => .clo (r.map cCl) false := by
  induction rows generalizing j with
  | nil => simp [cl]
  | cons r t ih =>
    cases j with
    | zero => simp [cl]
    | succ j =>
      have := ih j
      simp only [cl, List.map_cons, List.flatten_cons] at this ⊢
      rw [List.getElem?_append_right (by simp; omega)]
      simp only [List.length_cons, List.length_nil]
      rw [show 2 * (j + 1) + 1 - (0 + 1 + 1) = 2 * j + 1 by omega, this]
      rfl
theorem cl_set (rows : List (List RCl)) (j : Nat) (x : List RCl) : (cl rows).set (2 * j + 1) (.clo (x.map cCl) false) = cl (rows.set j x) := by
  induction rows generalizing j with
  | nil => simp [cl]
  | cons r t ih =>
    cases j with
    | zero => simp [cl]
    | succ j =>
      have := ih j
      simp only [cl, List.map_cons, List.flatten_cons, List.set_cons_succ] at this ⊢
      rw [List.set_append_right _ _ (by simp; omega)]
      simp only [List.length_cons, List.length_nil]
      rw [show 2 * (j + 1) + 1 - (0 + 1 + 1) = 2 * j + 1 by omega, this]

theorem mapO_all {α β : Type} {f : α → Option β} : ∀ {l : List α} {m : List β}, l.length = m.length → (∀ (j : Nat) x y, l[j]? = some x → m[j]? = some y → f x = some y) → mapO f l = some m
  | [], [], _, _ => rfl
  | [], _ :: _, h, _ => by simp at h
  | _ :: _, [], h, _ => by simp at h
  | x :: l, y :: m, h, g => by
    have h1 := g 0 x y rfl rfl
    have h2 := mapO_all (l := l) (m := m) (by simpa using h) fun j u v hu hv => g (j + 1) u v (by simpa using hu) (by simpa using hv)
    simp [mapO, h1, h2]

theorem fz_crows {h : Hp} {id b : Nat} {rows cur : List (List RCl)} (hlen : cur.length = rows.length) (h6 : h[id]? = some (.opn (clRows b rows rows.length) false))
    (hc : ∀ j (hj : j < rows.length) (hj2 : j < cur.length), h[b + (6 + 2 * j)]? = some (.clo (cur[j].map cCl) false) ∧ cur[j].length = rows[j].length) (n : Nat) :
    fzc (n + 2) h (.sl id 0 rows.length rows.length) = some (cRws cur) := by
  have hm : mapO (mapO (fzc (n + 1) h)) (clRows b rows rows.length) = some (cur.map fun r => [cRw r]) := by
    refine mapO_all (by simp [clRows, hlen]) fun j x y hx hy => ?_
    simp only [clRows, List.getElem?_mapIdx, List.getElem?_map] at hx hy
    have hj2 : j < cur.length := by
      rcases Nat.lt_or_ge j cur.length with h | h
      · exact h
      · rw [List.getElem?_eq_none h] at hy; cases hy
    have hj : j < rows.length := by omega
    rw [List.getElem?_eq_getElem hj] at hx
    rw [List.getElem?_eq_getElem hj2] at hy
    simp only [Option.map_some, Option.some.injEq, hj, if_true] at hx hy
    subst hx hy
    obtain ⟨g1, g2⟩ := hc j hj hj2
    simp only [mapO, fzc, g1, List.length_map, g2, if_true, List.drop_zero]
    rw [List.take_of_length_le (by simp [g2])]
    rfl
  have hl : (clRows b rows rows.length).length = rows.length := clRows_len ..
  unfold fzc
  simp only [h6, hl, if_true, List.drop_zero]
  rw [List.take_of_length_le (by omega), hm]
  rfl

/-- A radar in memory: its rows elsewhere. -/
def oRad (r : Rad) (id : Nat) : List Cell := [.c (.v (.int .u64 r.s)), .c (.v (.int .u64 r.fs)), .c (.v (.int .i64 r.h)), .c (.arr (r.bits.map cB1)), .sl id 0 r.rows.length r.rows.length]
/-- The memory behind a clone. -/
def clH (b : Nat) (r : Rad) : List Ent :=
  .opn [oRad r (b + 4)] false :: .opn [oRad r (b + 4)] false :: .clo [] false :: .clo [] false :: .opn (clRows b r.rows r.rows.length) false :: cl r.rows

theorem rd_clone {R : Rad} {H : Hp} (h0 : R.rows ≠ []) (hl : R.rows.length ≤ 1000) (hr : ∀ r ∈ R.rows, r ≠ [] ∧ r.length ≤ 1000000) :
    TV.S 52 [.agg ((cRad R).map .c)] H = some (.agg (oRad R (H.length + 4)), H ++ clH H.length R) := by
  refine run52 (by simp) (by simp) ?_
  obtain ⟨s, fs, hh, bits, rows⟩ := R
  dsimp only at h0 hl hr
  have hz : rows.length ≠ 0 := fun h => h0 (List.length_eq_zero_iff.1 h)
  simp [Try.f52, cRad, cRws, cRw, vmove, isNil, vmakeSlice_eq es26 el72, hz, small]
  refine ⟨⟨by omega, by omega⟩, ?_⟩
  obtain ⟨I, hI⟩ : ∃ I : Nat → St → Prop, ∀ k s', I k s' ↔ (∃ e h i, s' = ⟨e, h⟩ ∧ h = H ++ .opn [[.c (.v (.int .u64 s)), .c (.v (.int .u64 fs)), .c (.v (.int .i64 hh)), .c (.arr (bits.map cB1)), .c (cRws rows)]] false :: .opn [[.c (.v (.int .u64 0)), .c (.v (.int .u64 0)), .c (.v (.int .i64 0)), .sl (H.length + 2) 0 0 0, .sl (H.length + 3) 0 0 0]] false :: .clo [] false :: .clo [] false :: .opn (clRows H.length rows i) false :: cl (rows.take i) ∧
      e 1 = .one (.ptr ⟨H.length, 0, 0, 1⟩) ∧ e 2 = .one (.ptr ⟨H.length + 1, 0, 0, 1⟩) ∧ e 3 = .one (.sl (H.length + 4) 0 rows.length rows.length) ∧ e 11 = .one (.c (cRws rows)) ∧ e 12 = vI .i64 rows.length ∧ e 13 = vI .i64 (i : Nat) ∧ i + k = rows.length) := ⟨_, fun _ _ => Iff.rfl⟩
  refine wpL_ind I ?_ rows.length _ ((hI _ _).2 ⟨_, _, 0, rfl, by rw [clRows_zero]; simp [cRws, cRw, cl], by simp, by simp, by simp, by simp [cRws, cRw], by simp, by simp, by omega⟩)
  intro k st hst
  obtain ⟨e, h, i, rfl, rfl, e1, e2, e3, e11, e12, e13, hk⟩ := (hI _ _).1 hst
  by_cases c : i < rows.length
  · have c' : (i : Int) < rows.length := by omega
    have hm := hr rows[i] (List.getElem_mem c)
    have hx : rows[i]? = some rows[i] := List.getElem?_eq_getElem c
    have w1 : IntKind.i64.wrap ((i : Int) + 1) = ((i + 1 : Nat) : Int) := by rw [w64_id (by omega) (by omega)]; omega
    have hc := cells_Clone (r := rows[i]) (H := H ++ .opn [[.c (.v (.int .u64 s)), .c (.v (.int .u64 fs)), .c (.v (.int .i64 hh)), .c (.arr (bits.map cB1)), .c (cRws rows)]] false :: .opn [[.c (.v (.int .u64 0)), .c (.v (.int .u64 0)), .c (.v (.int .i64 0)), .sl (H.length + 2) 0 0 0, .sl (H.length + 3) 0 0 0]] false :: .clo [] false :: .clo [] false :: .opn (clRows H.length rows i) false :: cl (rows.take i)) hm.1 hm.2
    simp only [cRw, cRws] at hc
    simp [e1, e2, e3, e11, e12, e13, c, c', w1, cRws, cRw, vmove, hc, vstore, cellsOf?, clRows_len, Ent.wrO]
    refine ⟨by simp [clRows], by simp [clRows], k - 1, by omega, (hI _ _).2 ⟨_, _, i + 1, rfl, ?_, by simp [e1], by simp [e2], by simp [e3], by simp [e11, cRws, cRw], by simp [e12], by simp, by omega⟩⟩
    rw [clRows_modify _ _ _ c, cl_take _ _ c, ← clRows_set _ _ _ c, cl_len, List.length_take, Nat.min_eq_left (by omega)]
    rw [show H.length + (2 * i + 1 + 1 + 1 + 1 + 1) + 1 = H.length + (6 + 2 * i) by omega]
    simp [cRws, cRw]
  · have c' : ¬ (i : Int) < rows.length := by omega
    have hi : i = rows.length := by omega
    subst hi
    simp [e1, e2, e3, e11, e12, e13, c', cRws, vmove, vstore, cellsOf?, Ent.wrO, wr, clH, oRad]
    simp [qa]
end Go.Proofs.YthhbkihhllflfaaF
end

section
/- A radar's cells changed, one in each row: a flow that goes, a packet that comes. -/
set_option maxRecDepth 8192
set_option maxHeartbeats 1000000
namespace Go.Proofs.YthhbkihhllflfaaF
open Go Go.Proofs.Vm

/-- A row with the key's cell changed. -/
def updR (f : RCl → RCl) (s : Int) (key : ByteArray) (j : Int) (r : List RCl) : List RCl := r.modify (hcell (hrow s (j + 1)) key (r.length : Int)).toNat f
theorem updR_len (f : RCl → RCl) (s : Int) (key : ByteArray) (j : Int) (r : List RCl) : (updR f s key j r).length = r.length := by simp [updR]
def updTo (f : RCl → RCl) (s : Int) (key : ByteArray) (k : Nat) (rows : List (List RCl)) : List (List RCl) := rows.mapIdx fun j r => if j < k then updR f s key (j : Int) r else r
section
variable (f : RCl → RCl) (s : Int) (key : ByteArray)
theorem updTo_zero (rows : List (List RCl)) : updTo f s key 0 rows = rows := by
  apply List.ext_getElem
  · simp [updTo]
  · intro j h1 h2
    simp [updTo]
theorem updTo_len (k : Nat) (rows : List (List RCl)) : (updTo f s key k rows).length = rows.length := by simp [updTo]
theorem updTo_at (k : Nat) (rows : List (List RCl)) (h : k < (updTo f s key k rows).length) : (updTo f s key k rows)[k] = rows[k]'(by rw [updTo_len] at h; exact h) := by simp [updTo]
theorem updTo_at1 (k : Nat) (rows : List (List RCl)) (h : k < (updTo f s key (k + 1) rows).length) : (updTo f s key (k + 1) rows)[k] = updR f s key (k : Int) (rows[k]'(by rw [updTo_len] at h; exact h)) := by simp [updTo]
theorem updTo_set (k : Nat) (rows : List (List RCl)) (h : k < rows.length) : (updTo f s key k rows).set k (updR f s key (k : Int) rows[k]) = updTo f s key (k + 1) rows := by
  apply List.ext_getElem
  · simp [updTo]
  · intro j h1 h2
    rw [List.getElem_set]
    simp only [updTo, List.getElem_mapIdx]
    by_cases hj : k = j
    · subst hj; simp
    · rw [if_neg hj]
      by_cases hj2 : j < k
      · rw [if_pos hj2, if_pos (by omega)]
      · rw [if_neg hj2, if_neg (by omega)]
theorem updTo_rowlen (k : Nat) (rows : List (List RCl)) (j : Nat) (h : j < rows.length) (h2 : j < (updTo f s key k rows).length) : (updTo f s key k rows)[j].length = rows[j].length := by
  simp only [updTo, List.getElem_mapIdx]
  split
  · simp [updR]
  · rfl
def updA (rows : List (List RCl)) : List (List RCl) := updTo f s key rows.length rows

/-- The memory of a loop over the rows, behind the two boxes ahead. -/
def zH (C : Rad) (rows : List (List RCl)) (i : Nat) (L : List Ent) : List Ent :=
  .clo [] false :: .clo [] false :: .opn [oRad C 8] false :: .opn [oRad C 8] false :: .clo [] false :: .clo [] false :: .opn (clRows 4 rows rows.length) false :: (cl (updTo f s key i rows) ++ L)
theorem cl_getA (rows : List (List RCl)) (j : Nat) (h : j < rows.length) (L : List Ent) : (cl rows ++ L)[2 * j + 1]? = some (.clo (rows[j].map cCl) false) := by
  rw [List.getElem?_append_left (by rw [cl_len]; omega), cl_get, List.getElem?_eq_getElem h]; rfl
theorem cl_setA (rows : List (List RCl)) (j : Nat) (h : j < rows.length) (x : List RCl) (L : List Ent) : (cl rows ++ L).set (2 * j + 1) (.clo (x.map cCl) false) = cl (rows.set j x) ++ L := by
  rw [List.set_append_left _ _ (by rw [cl_len]; omega), cl_set]
theorem zH_app (C : Rad) (rows : List (List RCl)) (i : Nat) (L M : List Ent) : zH f s key C rows i L ++ M = zH f s key C rows i (L ++ M) := by simp [zH]
theorem zH_row (C : Rad) (rows : List (List RCl)) (i : Nat) (L : List Ent) (j : Nat) (h : j < (updTo f s key i rows).length) (X Y : Ent) : (X :: Y :: zH f s key C rows i L)[4 + (6 + 2 * j)]? = some (.clo ((updTo f s key i rows)[j].map cCl) false) := by
  show (X :: Y :: _ :: _ :: _ :: _ :: _ :: _ :: _ :: (cl (updTo f s key i rows) ++ L))[4 + (6 + 2 * j)]? = _
  rw [show 4 + (6 + 2 * j) = (2 * j + 1) + 9 by omega]
  simp only [List.getElem?_cons_succ]
  rw [cl_getA _ _ h]
theorem zH_fz (C : Rad) (rows : List (List RCl)) (i : Nat) (L : List Ent) (X Y : Ent) : fzc 5 (X :: Y :: zH f s key C rows i L) (.sl 8 0 rows.length rows.length) = some (cRws (updTo f s key i rows)) := by
  refine fz_crows (b := 4) (updTo_len ..) rfl (fun j hj hj2 => ⟨zH_row f s key C rows i L j hj2 X Y, updTo_rowlen _ _ _ _ _ _ hj hj2⟩) 3
theorem zH_set (C : Rad) (rows : List (List RCl)) (i : Nat) (L : List Ent) (c : i < rows.length) (X Y : Ent) : (X :: Y :: zH f s key C rows i L).set (4 + (6 + 2 * i)) (.clo ((updR f s key (i : Int) rows[i]).map cCl) false) = X :: Y :: zH f s key C rows (i + 1) L := by
  show (X :: Y :: _ :: _ :: _ :: _ :: _ :: _ :: _ :: (cl (updTo f s key i rows) ++ L)).set (4 + (6 + 2 * i)) _ = _
  rw [show 4 + (6 + 2 * i) = (2 * i + 1) + 9 by omega]
  simp only [List.set_cons_succ]
  rw [cl_setA _ _ (by rw [updTo_len]; exact c), updTo_set _ _ _ _ _ c]
  rfl
end

def remC (key : ByteArray) (c : RCl) : RCl := (xorK c.1 key, max (c.2.1 - 1) (-1099511627776), c.2.2.1, c.2.2.2)
theorem rd_Remove_no {R : Rad} {key : ByteArray} (hs : Seeds R) (hl : Lens R) (h : rOk R = false ∨ key.size ≠ 37) : TV.pu 26 [.agg (cRad R), cS key] = some (.agg (cRad R)) := by
  refine run26 (by simp) ?_
  have hR := rd_Right hs hl
  simp only [cRad, cRws, cRw] at hR
  by_cases c1 : rOk R = true
  · rw [c1] at hR
    have c2 : ¬ key.size = 37 := by rcases h with h | h; · rw [c1] at h; cases h
                                    · exact h
    have c2' : ¬ (key.size : Int) = 37 := by omega
    simp -implicitDefEqProofs [Try.f26, cRad, cRws, cRw, hR, c2', vstore, cellsOf?, Ent.wrO, wr, vmove, isNil]
    simp [qa]
  · have c1 : rOk R = false := by simpa using c1
    rw [c1] at hR
    simp -implicitDefEqProofs [Try.f26, cRad, cRws, cRw, hR, vstore, cellsOf?, Ent.wrO, wr, vmove, isNil]
    simp [qa]
theorem rd_Remove {R : Rad} {key : ByteArray} (hs : Seeds R) (hl : Lens R) (hok : rOk R = true) (hk37 : key.size = 37) : TV.pu 26 [.agg (cRad R), cS key] = some (.agg (cRad { R with rows := updA (remC key) R.s key R.rows })) := by
  refine run26 (by simp) ?_
  obtain ⟨q1, q2, q3, q4, q5⟩ := rOk_facts hok
  have hR := rd_Right hs hl
  rw [hok] at hR
  have hc := rd_clone (R := R) (H := [.opn [(cRad R).map .c] false, .opn [[.c (.v (.int .u64 0)), .c (.v (.int .u64 0)), .c (.v (.int .i64 0)), .sl 2 0 0 0, .sl 3 0 0 0]] false, .clo [] false, .clo [] false]) (by rintro h; rw [h] at q3; simp at q3) (by omega) (fun r hr => ⟨by have := (q5 r hr).1; rintro rfl; simp at this, by have := (q5 r hr).2.1; omega⟩)
  have hpl : ∀ (i : Nat) (rows : List (List RCl)), rows.length = R.rows.length → (∀ x ∈ rows, x.length < 4611686018427387904) → ∀ h : i < rows.length, TV.pu 34 [.agg (cRad { R with rows := rows }), cS key, cI .i64 i] = some (cI .i64 (rplc R key i rows[i].length)) := fun i rows h1 h2 h3 => by
    rw [rd_place (R := { R with rows := rows }) hs ⟨by rw [h1]; exact hl.1, h2, hl.2.2⟩ h3 (by omega)]; rfl
  obtain ⟨s, fs, hh, bits, rows⟩ := R
  dsimp only at q1 q2 q3 q4 q5 hpl ⊢
  simp only [cRad, cRws, cRw, List.map_cons, List.map_nil] at hR hc
  simp only [cRad] at hpl
  have hk37' : (key.size : Int) = 37 := by omega
  simp [Try.f26, cRad, cRws, cRw, hR, hc, hk37, vstore, cellsOf?, Ent.wrO, wr, vmove, isNil, clH, clRows_len, oRad]
  obtain ⟨I, hI⟩ : ∃ I : Nat → St → Prop, ∀ k s', I k s' ↔ (∃ e h i L, s' = ⟨e, h⟩ ∧ h = .opn [oRad ⟨s, fs, hh, bits, rows⟩ 8] false :: .opn [[.c (.v (.int .u64 0)), .c (.v (.int .u64 0)), .c (.v (.int .i64 0)), .sl 2 0 0 0, .sl 3 0 0 0]] false :: zH (remC key) s key ⟨s, fs, hh, bits, rows⟩ rows i L ∧
      e 1 = vS key ∧ e 2 = .one (.ptr ⟨0, 0, 0, 1⟩) ∧ e 4 = .one (.ptr ⟨1, 0, 0, 1⟩) ∧ e 21 = vI .i64 rows.length ∧ e 22 = vI .i64 (i : Nat) ∧ i + k = rows.length) := ⟨_, fun _ _ => Iff.rfl⟩
  refine wpL_ind I ?_ rows.length _ ((hI _ _).2 ⟨_, _, 0, [], rfl, by simp [zH, updTo_zero, oRad], by simp, by simp, by simp, by simp, by simp, by omega⟩)
  intro k st hst
  obtain ⟨e, h, i, L, rfl, rfl, e1, e2, e4, e21, e22, hk⟩ := (hI _ _).1 hst
  have hz := zH_fz (remC key) s key ⟨s, fs, hh, bits, rows⟩ rows
  have ha := zH_app (remC key) s key ⟨s, fs, hh, bits, rows⟩ rows
  by_cases c : i < rows.length
  · have c' : (i : Int) < rows.length := by omega
    have hrw := q5 rows[i] (List.getElem_mem c)
    have hul : i < (updTo (remC key) s key i rows).length := by rw [updTo_len]; exact c
    have hat := updTo_at (remC key) s key i rows hul
    have hp := hpl i (updTo (remC key) s key i rows) (updTo_len ..) (fun x hx => by
      obtain ⟨j, hj, rfl⟩ := List.getElem_of_mem hx
      have hj' : j < rows.length := by rw [updTo_len] at hj; exact hj
      rw [updTo_rowlen _ _ _ _ _ _ hj' hj]
      have := (q5 _ (List.getElem_mem hj')).2.1
      omega) hul
    rw [hat] at hp
    have hcr := rplc_range (r := ⟨s, fs, hh, bits, rows⟩) (key := key) (i := i) (n := rows[i].length) (by omega)
    obtain ⟨q, hq⟩ : ∃ q : Nat, rplc ⟨s, fs, hh, bits, rows⟩ key i rows[i].length = (q : Int) := ⟨_, (Int.toNat_of_nonneg hcr.1).symm⟩
    rw [hq] at hp hcr
    have hql : q < rows[i].length := by omega
    have hw := hrw.2.2.2 rows[i][q] (List.getElem_mem hql)
    have hrwz := fun L => zH_row (remC key) s key ⟨s, fs, hh, bits, rows⟩ rows i L i hul
    have hset := fun L => zH_set (remC key) s key ⟨s, fs, hh, bits, rows⟩ rows i L c
    simp only [hat] at hrwz
    have h6 : ∀ L, (zH (remC key) s key ⟨s, fs, hh, bits, rows⟩ rows i L)[6]? = some (.opn (clRows 4 rows rows.length) false) := fun L => rfl
    have hra : ∀ h : i < (clRows 4 rows rows.length).length, (clRows 4 rows rows.length)[i]'h = [.sl (4 + (6 + 2 * i)) 0 rows[i].length rows[i].length] := by simp [clRows]
    have hzM : ∀ L M X Y, fzc 5 (X :: Y :: (zH (remC key) s key ⟨s, fs, hh, bits, rows⟩ rows i L ++ M)) (.sl 8 0 rows.length rows.length) = some (cRws (updTo (remC key) s key i rows)) := fun L M X Y => by rw [ha]; exact hz _ _ _ _
    have hrwzM : ∀ L M X Y, (X :: Y :: (zH (remC key) s key ⟨s, fs, hh, bits, rows⟩ rows i L ++ M))[4 + (6 + 2 * i)]? = some (.clo (rows[i].map cCl) false) := fun L M X Y => by rw [ha]; exact hrwz _ _ _
    have h6M : ∀ L M, (zH (remC key) s key ⟨s, fs, hh, bits, rows⟩ rows i L ++ M)[6]? = some (.opn (clRows 4 rows rows.length) false) := fun L M => rfl
    have hsetM : ∀ L M X Y, (X :: Y :: (zH (remC key) s key ⟨s, fs, hh, bits, rows⟩ rows i L ++ M)).set (4 + (6 + 2 * i)) (.clo ((updR (remC key) s key (i : Int) rows[i]).map cCl) false) = X :: Y :: (zH (remC key) s key ⟨s, fs, hh, bits, rows⟩ rows (i + 1) L ++ M) := fun L M X Y => by rw [ha, ha]; exact hset _ _ _
    have hwr : Ent.wrC (rows[i].map cCl) q 0 (cCl (remC key rows[i][q])) = (updR (remC key) s key (i : Int) rows[i]).map cCl := by
      have hqq : (hcell (hrow s ((i : Int) + 1)) key (rows[i].length : Int)).toNat = q := by
        have : hcell (hrow s ((i : Int) + 1)) key (rows[i].length : Int) = (q : Int) := hq
        rw [this]; rfl
      rw [updR, hqq]
      apply List.ext_getElem
      · simp [Ent.wrC]
      · intro j h1 h2
        simp only [Ent.wrC, List.getElem_modify, List.getElem_map]
        by_cases hj : q = j
        · subst hj; simp [wr, cCl]
        · rw [if_neg hj, if_neg hj]
    obtain ⟨y, hy⟩ : ∃ y, rows[i][q] = y := ⟨_, rfl⟩
    rw [hy] at hwr hw
    obtain ⟨x, fl, pk, bb⟩ := y
    have hcl : cCl rows[i][q] = [.v (.string x), .v (.int .i64 fl), .v (.int .i64 pk), .v (.int .i64 bb)] := by rw [hy]; rfl
    obtain ⟨w1, w2, w3⟩ : x.size = 37 ∧ -1099511627776 ≤ fl ∧ fl ≤ 1099511627776 := by
      unfold wrongB at hw
      simp only [Bool.or_eq_false_iff, decide_eq_false_iff_not] at hw
      obtain ⟨⟨⟨⟨a1, a2⟩, a3⟩, -⟩, -⟩ := hw
      exact ⟨by omega, by omega, by omega⟩
    have hx := rd_xor (a := x) (b := key) (by omega) (by omega) (by omega)
    have u1 : IntKind.i64.wrap (fl - 1) = fl - 1 := w64_id (by omega) (by omega)
    have u2 : IntKind.i64.wrap ((i : Int) + 1) = ((i + 1 : Nat) : Int) := by rw [w64_id (by omega) (by omega)]; omega
    have hmx : (if fl - 1 < -1099511627776 then -1099511627776 else fl - 1) = max (fl - 1) (-1099511627776) := by omega
    simp only [cCl, remC] at hwr
    simp -implicitDefEqProofs [-fzc, fz_v, fz_arr, e1, e2, e21, e22, c, c', vmove, isNil, h6, hra, clRows_len, hz, hp, hql, hrwz, vstore, cellsOf?, oRad, hcl, hrwzM, h6M, hsetM, hwr, hx, u1, u2, hmx, Ent.wrO, wr, max_int]
    exact ⟨k - 1, by omega, (hI _ _).2 ⟨_, _, i + 1, _, rfl, by rw [zH_app]; rfl, by simp [e1], by simp [e2], by simp [e4], by simp [e21], by simp, by omega⟩⟩
  · have c' : ¬ (i : Int) < rows.length := by omega
    have hi : i = rows.length := by omega
    subst hi
    simp -implicitDefEqProofs [-fzc, e2, e4, e21, e22, c', vstore, cellsOf?, Ent.wrO, wr, oRad]
    simp [-fzc, fz_v, fz_arr, qa, hz, updA, cRws, cRw]
/-- A packet in a cell. -/
def addC (fr : Bool) (key : ByteArray) (n : Int) (c : RCl) : RCl := (if fr then xorK c.1 key else c.1, if fr then c.2.1 + 1 else c.2.1, c.2.2.1 + 1, c.2.2.2 + n)
/-- A key's cell in a row. -/
def curC (s : Int) (key : ByteArray) (j : Int) (r : List RCl) : RCl := r.getD (hcell (hrow s (j + 1)) key (r.length : Int)).toNat (ByteArray.empty, 0, 0, 0)
def freshB (R : Rad) (key : ByteArray) : Bool := !hasB R.fs R.h R.bits key
def zRad : Rad := ⟨0, 0, 0, [], []⟩
def addRad (R : Rad) (key : ByteArray) (n : Int) : Rad := { R with bits := addB R.bits (plc R.fs R.h key R.bits.length), rows := updA (addC (freshB R key) key n) R.s key R.rows }
theorem wrongB_iff (c : RCl) : wrongB c = false ↔ c.1.size = 37 ∧ -1099511627776 ≤ c.2.1 ∧ c.2.1 ≤ 1099511627776 ∧ 0 ≤ c.2.2.1 ∧ c.2.2.1 ≤ 1099511627776 ∧ 0 ≤ c.2.2.2 ∧ c.2.2.2 ≤ 1099511627776 := by
  unfold wrongB fitB
  simp only [Bool.or_eq_false_iff, decide_eq_false_iff_not, Bool.not_eq_false', Bool.and_eq_true, decide_eq_true_eq]
  omega
theorem rd_Add_arg {R : Rad} {key : ByteArray} {n : Int} (hs : Seeds R) (hl : Lens R) (h : rOk R = false ∨ key.size ≠ 37 ∨ fitB n = false) : TV.pu 25 [.agg (cRad R), cS key, cI .i64 n] = some (.tup [(true, cRad zRad), (false, [.v (.int .i64 1)])]) := by
  refine run25 (by simp) ?_
  have hR := rd_Right hs hl
  have hf := rd_fits n
  simp only [cRad, cRws, cRw] at hR
  by_cases c1 : rOk R = true
  · rw [c1] at hR
    by_cases c2 : key.size = 37
    · have c2' : (key.size : Int) = 37 := by omega
      have c3 : fitB n = false := by
        rcases h with h | h | h
        · rw [c1] at h; cases h
        · exact absurd c2 h
        · exact h
      rw [c3] at hf
      simp -implicitDefEqProofs [Try.f25, cRad, cRws, cRw, zRad, hR, hf, c2, vstore, cellsOf?, Ent.wrO, wr, vmove, isNil]
      simp [qa]
    · have c2' : ¬ (key.size : Int) = 37 := by omega
      simp -implicitDefEqProofs [Try.f25, cRad, cRws, cRw, zRad, hR, c2', vstore, cellsOf?, Ent.wrO, wr, vmove, isNil]
      simp [qa]
  · have c1 : rOk R = false := by simpa using c1
    rw [c1] at hR
    simp -implicitDefEqProofs [Try.f25, cRad, cRws, cRw, zRad, hR, vstore, cellsOf?, Ent.wrO, wr, vmove, isNil]
    simp [qa]

theorem rd_Add {R : Rad} {key : ByteArray} {n : Int} (hs : Seeds R) (hl : Lens R) (hok : rOk R = true) (hk37 : key.size = 37) (hn : fitB n = true) : TV.pu 25 [.agg (cRad R), cS key, cI .i64 n] = some (if ∀ j, ∀ h : j < R.rows.length, wrongB (addC (freshB R key) key n (curC R.s key (j : Int) R.rows[j])) = false then .tup [(true, cRad (addRad R key n)), (false, [.v (.int .i64 0)])] else .tup [(true, cRad zRad), (false, [.v (.int .i64 5)])]) := by
  refine run25 (by simp) ?_
  obtain ⟨q1, q2, q3, q4, q5⟩ := rOk_facts hok
  have hR := rd_Right hs hl
  rw [hok] at hR
  have hf := rd_fits n
  rw [hn] at hf
  have hnn : 0 ≤ n ∧ n ≤ 1099511627776 := by simpa [fitB] using hn
  have hH := bloom_Has (seed := R.fs) (h := R.h) (bits := R.bits) (key := key) hs.2.2.1 hs.2.2.2 (by omega)
  rw [q1, Bool.true_and] at hH
  have hA := bloom_Add (seed := R.fs) (h := R.h) (bits := R.bits) (key := key) hs.2.2.1 hs.2.2.2 (by omega) q1
  have hc := rd_clone (R := R) (H := [.opn [(cRad R).map .c] false, .opn [[.c (.v (.int .u64 0)), .c (.v (.int .u64 0)), .c (.v (.int .i64 0)), .sl 2 0 0 0, .sl 3 0 0 0]] false, .clo [] false, .clo [] false]) (by rintro h; rw [h] at q3; simp at q3) (by omega) (fun r hr => ⟨by have := (q5 r hr).1; rintro rfl; simp at this, by have := (q5 r hr).2.1; omega⟩)
  have hpl : ∀ (i : Nat) (rows : List (List RCl)), rows.length = R.rows.length → (∀ x ∈ rows, x.length < 4611686018427387904) → ∀ h : i < rows.length, TV.pu 34 [.agg (cRad { R with bits := addB R.bits (plc R.fs R.h key R.bits.length), rows := rows }), cS key, cI .i64 i] = some (cI .i64 (rplc R key i rows[i].length)) := fun i rows h1 h2 h3 => by
    rw [rd_place (R := { R with bits := addB R.bits (plc R.fs R.h key R.bits.length), rows := rows }) hs ⟨by rw [h1]; exact hl.1, h2, by rw [addB_len]; exact hl.2.2⟩ h3 (by omega)]; rfl
  unfold addRad
  obtain ⟨fr, hfr⟩ : ∃ fr, freshB R key = fr := ⟨_, rfl⟩
  have hfr' : hasB R.fs R.h R.bits key = !fr := by rw [← hfr]; simp [freshB]
  rw [hfr'] at hH
  rw [hfr]
  obtain ⟨bits', hb'⟩ : ∃ b', addB R.bits (plc R.fs R.h key R.bits.length) = b' := ⟨_, rfl⟩
  rw [hb'] at hA hpl ⊢
  obtain ⟨s, fs, hh, bits, rows⟩ := R
  dsimp only at q1 q2 q3 q4 q5 hpl hH hA ⊢
  simp only [cRad, cRws, cRw, List.map_cons, List.map_nil] at hR hc
  simp only [cRad] at hpl
  simp only [cF] at hH hA
  have hk37' : (key.size : Int) = 37 := by omega
  simp -implicitDefEqProofs [Try.f25, cRad, cRws, cRw, hR, hc, hf, hH, hA, hk37, vstore, cellsOf?, Ent.wrO, wr, vmove, isNil, clH, clRows_len, oRad]
  obtain ⟨I, hI⟩ : ∃ I : Nat → St → Prop, ∀ k s', I k s' ↔ (∃ e h i L, s' = ⟨e, h⟩ ∧ h = .opn [oRad ⟨s, fs, hh, bits', rows⟩ 8] false :: .opn [[.c (.v (.int .u64 0)), .c (.v (.int .u64 0)), .c (.v (.int .i64 0)), .sl 2 0 0 0, .sl 3 0 0 0]] false :: zH (addC fr key n) s key ⟨s, fs, hh, bits, rows⟩ rows i L ∧
      e 1 = vS key ∧ e 2 = vI .i64 n ∧ e 3 = .one (.ptr ⟨0, 0, 0, 1⟩) ∧ e 6 = .one (.ptr ⟨1, 0, 0, 1⟩) ∧ e 8 = vB fr ∧ e 39 = vI .i64 rows.length ∧ e 40 = vI .i64 (i : Nat) ∧ i + k = rows.length ∧
      ∀ j, j < i → ∀ h : j < rows.length, wrongB (addC fr key n (curC s key (j : Int) rows[j])) = false) := ⟨_, fun _ _ => Iff.rfl⟩
  refine wpL_ind I ?_ rows.length _ ((hI _ _).2 ⟨_, _, 0, [], rfl, by simp [zH, updTo_zero, oRad], by simp, by simp, by simp, by simp, by simp, by simp, by simp, by omega, by omega⟩)
  intro k st hst
  obtain ⟨e, h, i, L, rfl, rfl, e1, e2, e3, e6, e8, e39, e40, hk, hall⟩ := (hI _ _).1 hst
  have hz := zH_fz (addC fr key n) s key ⟨s, fs, hh, bits, rows⟩ rows
  have ha := zH_app (addC fr key n) s key ⟨s, fs, hh, bits, rows⟩ rows
  by_cases c : i < rows.length
  · have c' : (i : Int) < rows.length := by omega
    have hrw := q5 rows[i] (List.getElem_mem c)
    have hul : i < (updTo (addC fr key n) s key i rows).length := by rw [updTo_len]; exact c
    have hat := updTo_at (addC fr key n) s key i rows hul
    have hp := hpl i (updTo (addC fr key n) s key i rows) (updTo_len ..) (fun x hx => by
      obtain ⟨j, hj, rfl⟩ := List.getElem_of_mem hx
      have hj' : j < rows.length := by rw [updTo_len] at hj; exact hj
      rw [updTo_rowlen _ _ _ _ _ _ hj' hj]
      have := (q5 _ (List.getElem_mem hj')).2.1
      omega) hul
    rw [hat] at hp
    have hcr := rplc_range (r := ⟨s, fs, hh, bits, rows⟩) (key := key) (i := i) (n := rows[i].length) (by omega)
    obtain ⟨q, hq⟩ : ∃ q : Nat, rplc ⟨s, fs, hh, bits, rows⟩ key i rows[i].length = (q : Int) := ⟨_, (Int.toNat_of_nonneg hcr.1).symm⟩
    rw [hq] at hp hcr
    have hql : q < rows[i].length := by omega
    have hw := hrw.2.2.2 rows[i][q] (List.getElem_mem hql)
    have hrwz := fun L => zH_row (addC fr key n) s key ⟨s, fs, hh, bits, rows⟩ rows i L i hul
    have hset := fun L => zH_set (addC fr key n) s key ⟨s, fs, hh, bits, rows⟩ rows i L c
    simp only [hat] at hrwz
    have h6 : ∀ L, (zH (addC fr key n) s key ⟨s, fs, hh, bits, rows⟩ rows i L)[6]? = some (.opn (clRows 4 rows rows.length) false) := fun L => rfl
    have hra : ∀ h : i < (clRows 4 rows rows.length).length, (clRows 4 rows rows.length)[i]'h = [.sl (4 + (6 + 2 * i)) 0 rows[i].length rows[i].length] := by simp [clRows]
    have hzM : ∀ L M X Y, fzc 5 (X :: Y :: (zH (addC fr key n) s key ⟨s, fs, hh, bits, rows⟩ rows i L ++ M)) (.sl 8 0 rows.length rows.length) = some (cRws (updTo (addC fr key n) s key i rows)) := fun L M X Y => by rw [ha]; exact hz _ _ _ _
    have hrwzM : ∀ L M X Y, (X :: Y :: (zH (addC fr key n) s key ⟨s, fs, hh, bits, rows⟩ rows i L ++ M))[4 + (6 + 2 * i)]? = some (.clo (rows[i].map cCl) false) := fun L M X Y => by rw [ha]; exact hrwz _ _ _
    have h6M : ∀ L M, (zH (addC fr key n) s key ⟨s, fs, hh, bits, rows⟩ rows i L ++ M)[6]? = some (.opn (clRows 4 rows rows.length) false) := fun L M => rfl
    have hsetM : ∀ L M X Y, (X :: Y :: (zH (addC fr key n) s key ⟨s, fs, hh, bits, rows⟩ rows i L ++ M)).set (4 + (6 + 2 * i)) (.clo ((updR (addC fr key n) s key (i : Int) rows[i]).map cCl) false) = X :: Y :: (zH (addC fr key n) s key ⟨s, fs, hh, bits, rows⟩ rows (i + 1) L ++ M) := fun L M X Y => by rw [ha, ha]; exact hset _ _ _
    have hqq : (hcell (hrow s ((i : Int) + 1)) key (rows[i].length : Int)).toNat = q := by
      have : hcell (hrow s ((i : Int) + 1)) key (rows[i].length : Int) = (q : Int) := hq
      rw [this]; rfl
    have hwr : Ent.wrC (rows[i].map cCl) q 0 (cCl (addC fr key n rows[i][q])) = (updR (addC fr key n) s key (i : Int) rows[i]).map cCl := by
      rw [updR, hqq]
      apply List.ext_getElem
      · simp [Ent.wrC]
      · intro j h1 h2
        simp only [Ent.wrC, List.getElem_modify, List.getElem_map]
        by_cases hj : q = j
        · subst hj; simp [wr, cCl]
        · rw [if_neg hj, if_neg hj]
    have hcur : curC s key (i : Int) rows[i] = rows[i][q] := by
      rw [curC, hqq, List.getD_eq_getElem?_getD, List.getElem?_eq_getElem hql]; rfl
    have hnext : wrongB (addC fr key n rows[i][q]) = false → ∀ j, j < i + 1 → ∀ h : j < rows.length, wrongB (addC fr key n (curC s key (j : Int) rows[j])) = false := fun hg j hj h => by
      by_cases hji : j = i
      · subst hji
        rw [hcur]; exact hg
      · exact hall j (by omega) h
    have hbad : wrongB (addC fr key n rows[i][q]) = true → ¬ ∀ j, ∀ h : j < rows.length, wrongB (addC fr key n (curC s key (j : Int) rows[j])) = false := fun hg hx => by
      have := hx i c
      rw [hcur, hg] at this
      cases this
    have hwp := rd_wrong (addC fr key n rows[i][q])
    obtain ⟨y, hy⟩ : ∃ y, rows[i][q] = y := ⟨_, rfl⟩
    rw [hy] at hwr hw hwp hnext hbad
    obtain ⟨x, fl, pk, bb⟩ := y
    have hcl : cCl rows[i][q] = [.v (.string x), .v (.int .i64 fl), .v (.int .i64 pk), .v (.int .i64 bb)] := by rw [hy]; rfl
    have hw := (wrongB_iff _).1 hw
    dsimp only at hw
    obtain ⟨w1, w2, w3, w4, w5, w6, w7⟩ := hw
    have hx := rd_xor (a := x) (b := key) (by omega) (by omega) (by omega)
    have u1 : IntKind.i64.wrap (fl + 1) = fl + 1 := w64_id (by omega) (by omega)
    have u2 : IntKind.i64.wrap ((i : Int) + 1) = ((i + 1 : Nat) : Int) := by rw [w64_id (by omega) (by omega)]; omega
    have u3 : IntKind.i64.wrap (pk + 1) = pk + 1 := w64_id (by omega) (by omega)
    have u4 : IntKind.i64.wrap (bb + n) = bb + n := w64_id (by omega) (by omega)
    cases fr with
    | false =>
      cases hg : wrongB (addC false key n (x, fl, pk, bb)) with
      | true =>
        rw [if_neg (hbad hg)]
        rw [hg] at hwp
        simp only [cCl, addC] at hwp
        simp at hwp
        simp -implicitDefEqProofs [-fzc, fz_v, fz_arr, e1, e2, e3, e6, e8, e39, e40, c, c', vmove, isNil, h6, hra, clRows_len, hz, hp, hql, hrwz, vstore, cellsOf?, oRad, hcl, u3, u4, Ent.wrO, wr, hwp]
        simp [fzc, qa, zRad]
      | false =>
        rw [hg] at hwp
        have hnx := hnext hg
        simp only [cCl, addC] at hwp hwr
        simp at hwp hwr
        simp -implicitDefEqProofs [-fzc, fz_v, fz_arr, e1, e2, e3, e8, e39, e40, c, c', vmove, isNil, h6, hra, clRows_len, hz, hp, hql, hrwz, vstore, cellsOf?, oRad, hcl, hzM, hrwzM, h6M, hsetM, hwr, u2, u3, u4, Ent.wrO, wr, hwp]
        exact ⟨k - 1, by omega, (hI _ _).2 ⟨_, _, i + 1, _, rfl, by rw [zH_app]; rfl, by simp [e1], by simp [e2], by simp [e3], by simp [e6], by simp [e8], by simp [e39], by simp, by omega, hnx⟩⟩
    | true =>
      cases hg : wrongB (addC true key n (x, fl, pk, bb)) with
      | true =>
        rw [if_neg (hbad hg)]
        rw [hg] at hwp
        simp only [cCl, addC] at hwp
        simp at hwp
        simp -implicitDefEqProofs [-fzc, fz_v, fz_arr, e1, e2, e3, e6, e8, e39, e40, c, c', vmove, isNil, h6, hra, clRows_len, hz, hp, hql, hrwz, vstore, cellsOf?, oRad, hcl, hx, u1, u3, u4, Ent.wrO, wr, hwp]
        simp [fzc, qa, zRad]
      | false =>
        rw [hg] at hwp
        have hnx := hnext hg
        simp only [cCl, addC] at hwp hwr
        simp at hwp hwr
        simp -implicitDefEqProofs [-fzc, fz_v, fz_arr, e1, e2, e3, e8, e39, e40, c, c', vmove, isNil, h6, hra, clRows_len, hz, hp, hql, hrwz, vstore, cellsOf?, oRad, hcl, hzM, hrwzM, h6M, hsetM, hwr, u2, hx, u1, u3, u4, Ent.wrO, wr, hwp]
        exact ⟨k - 1, by omega, (hI _ _).2 ⟨_, _, i + 1, _, rfl, by rw [zH_app]; rfl, by simp [e1], by simp [e2], by simp [e3], by simp [e6], by simp [e8], by simp [e39], by simp, by omega, hnx⟩⟩
  · have c' : ¬ (i : Int) < rows.length := by omega
    have hi : i = rows.length := by omega
    subst hi
    rw [if_pos fun j h => hall j h h]
    simp -implicitDefEqProofs [-fzc, e3, e6, e39, e40, c', vstore, cellsOf?, Ent.wrO, wr, vmove, isNil, oRad]
    simp [-fzc, fz_v, fz_arr, qa, hz, updA, cRws, cRw]
end Go.Proofs.YthhbkihhllflfaaF
end

section
/- A radar's pure cell; is it empty; a key's place. -/
set_option maxRecDepth 8192
set_option maxHeartbeats 1000000
namespace Go.Proofs.YthhbkihhllflfaaF
open Go Go.Proofs.Vm

def sEq (u v : ByteArray) : Bool := u.toList == v.toList
theorem sEq_iff {u v : ByteArray} : sEq u v = true ↔ u = v := by
  unfold sEq
  rw [beq_iff_eq, toList_inj]
def cStr (s : ByteArray) : List CV := [.v (.string s)]
def cSs (l : List ByteArray) : CV := .arr (l.map cStr)

theorem index_strs {v : ByteArray} {r : List ByteArray} (hl : r.length < 9223372036854775807) : TV.pu 65 [.one (cSs r), cS v] = some (cI .i64 (idxF (sEq v) r)) := by
  refine run65 (by simp) ?_
  simp [Try.f65, cSs]
  obtain ⟨I, hI⟩ : ∃ I : Nat → St → Prop, ∀ k s', I k s' ↔ (∃ e j, s' = ⟨e, []⟩ ∧ e 0 = .one (.c (.arr (r.map cStr))) ∧ e 1 = vS v ∧ e 7 = vI .i64 r.length ∧ e 8 = vI .i64 (j : Nat) ∧ j + k = r.length ∧ ∀ q, q < j → ∀ x, r[q]? = some x → sEq v x = false) := ⟨_, fun _ _ => Iff.rfl⟩
  refine wpL_ind I ?_ r.length _ ((hI _ _).2 ⟨_, 0, rfl, by simp, by simp, by simp, by simp, by omega, by simp⟩)
  intro k st hst
  obtain ⟨e, j, rfl, e0, e1, e7, e8, hk, hno⟩ := (hI _ _).1 hst
  by_cases c : j < r.length
  · have hx : r[j]? = some r[j] := List.getElem?_eq_getElem c
    have w1 : IntKind.i64.wrap ((j : Int) + 1) = ((j + 1 : Nat) : Int) := by rw [w64_id (by omega) (by omega)]; omega
    have hq : (v.toList == r[j].toList) = sEq v r[j] := rfl
    by_cases hj : sEq v r[j] = true
    · rw [hj] at hq
      simp -implicitDefEqProofs [e0, e1, e7, e8, c, cStr, hq, idxF_at (sEq v) r j c hj hno]
    · have hj' : sEq v r[j] = false := by simpa using hj
      rw [hj'] at hq
      simp -implicitDefEqProofs [e0, e1, e7, e8, c, w1, cStr, hq]
      refine ⟨k - 1, by omega, (hI _ _).2 ⟨_, j + 1, rfl, by simp [e0], by simp [e1], by simp [e7], by simp, by omega, ?_⟩⟩
      intro q hq x hx2
      by_cases hqj : q = j
      · subst hqj
        rw [hx] at hx2
        cases hx2
        exact hj'
      · exact hno q (by omega) x hx2
  · have c' : ¬ (j : Int) < (r.length : Int) := by omega
    simp [e0, e1, e7, e8, c']
    rw [idxF_none (sEq v) r fun q hq => hno q (by omega)]
theorem contains_strs {v : ByteArray} {r : List ByteArray} (hl : r.length < 9223372036854775807) : TV.pu 36 [.one (cSs r), cS v] = some (cB (r.any (sEq v))) := by
  refine run36 (by simp) ?_
  have h := index_strs (v := v) hl
  simp [Try.f36, h, idxF_ge, cSs] at h ⊢

theorem fs_none {α : Type} {f : Nat → Option α} {n : Nat} (h : ∀ i, i < n → f i = none) : (List.range n).findSome? f = none := by
  rw [List.findSome?_eq_none_iff]
  intro i hi
  exact h i (List.mem_range.1 hi)
theorem fs_at {α : Type} {f : Nat → Option α} {n i : Nat} {x : α} (hi : i < n) (h : ∀ j, j < i → f j = none) (hx : f i = some x) : (List.range n).findSome? f = some x := by
  obtain ⟨m, rfl⟩ : ∃ m, n = i + (1 + m) := ⟨n - i - 1, by omega⟩
  rw [List.range_add, List.findSome?_append, fs_none h]
  simp [List.range_succ_eq_map, hx, Nat.add_comm 1 m]

def zC : RCl := (ByteArray.empty, 0, 0, 0)
/-- Is a cell pure, and its key not yet told? -/
def okC (R : Rad) (told : List ByteArray) (i n p : Nat) (c : RCl) : Bool := decide (c.2.1 = 1) && decide (rplc R c.1 i n = (p : Int)) && hasB R.fs R.h R.bits c.1 && !told.any (sEq c.1)
def pureR (R : Rad) (told : List ByteArray) (i : Nat) : Option ByteArray := (List.range (R.rows.getD i []).length).findSome? fun p => if okC R told i (R.rows.getD i []).length p ((R.rows.getD i []).getD p zC) = true then some ((R.rows.getD i []).getD p zC).1 else none
def pureOf (R : Rad) (told : List ByteArray) : Option ByteArray := (List.range R.rows.length).findSome? (pureR R told)
def pureA (o : Option ByteArray) : CA := match o with
  | some k => .tup [(false, [.v (.string k)]), (false, [.v (.bool true)])]
  | none => .tup [(false, [.v (.string ByteArray.empty)]), (false, [.v (.bool false)])]

theorem rd_Pure_no {R : Rad} {told : List ByteArray} (hs : Seeds R) (hl : Lens R) (hok : rOk R = false) : TV.pu 14 [.agg (cRad R), .one (cSs told)] = some (pureA none) := by
  refine run14 (by simp) ?_
  have hR := rd_Right hs hl
  rw [hok] at hR
  simp only [cRad, cRws, cRw] at hR
  simp -implicitDefEqProofs [Try.f14, cRad, cRws, cRw, hR, pureA]
  rfl
theorem rd_Pure {R : Rad} {told : List ByteArray} (hs : Seeds R) (hl : Lens R) (hok : rOk R = true) (ht : told.length < 9223372036854775807) : TV.pu 14 [.agg (cRad R), .one (cSs told)] = some (pureA (pureOf R told)) := by
  refine run14 (by simp) ?_
  obtain ⟨q1, q2, q3, q4, q5⟩ := rOk_facts hok
  have hR := rd_Right hs hl
  rw [hok] at hR
  have hpl := fun (key : ByteArray) (i : Nat) (hi : i < R.rows.length) (hk : key.size ≤ 140737488351232) => rd_place (R := R) (key := key) (i := i) hs hl hi hk
  have hH := fun key hk => bloom_Has (seed := R.fs) (h := R.h) (bits := R.bits) (key := key) hs.2.2.1 hs.2.2.2 hk
  simp only [q1, Bool.true_and, cF] at hH
  obtain ⟨res, hres⟩ : ∃ res, pureA (pureOf R told) = res := ⟨_, rfl⟩
  rw [hres]
  simp only [cRad, cRws, cRw] at hR hpl
  simp -implicitDefEqProofs [Try.f14, cRad, cRws, cRw, hR]
  have hfin : (∀ j, j < R.rows.length → pureR R told j = none) → res = pureA none := fun h => by rw [← hres, pureOf, fs_none h]
  have hgot : ∀ i x, i < R.rows.length → (∀ j, j < i → pureR R told j = none) → pureR R told i = some x → res = pureA (some x) := fun i x h1 h2 h3 => by rw [← hres, pureOf, fs_at h1 h2 h3]
  obtain ⟨I, hI⟩ : ∃ I : Nat → St → Prop, ∀ k s', I k s' ↔ (∃ e h i L, s' = ⟨e, h⟩ ∧ h = .opn [(cRad R).map .c] false :: L ∧
      e 1 = .one (.c (cSs told)) ∧ e 2 = .one (.ptr ⟨0, 0, 0, 1⟩) ∧ e 14 = .one (.c (cRws R.rows)) ∧ e 15 = vI .i64 R.rows.length ∧ e 16 = vI .i64 (i : Nat) ∧ i + k = R.rows.length ∧ ∀ j, j < i → pureR R told j = none) := ⟨_, fun _ _ => Iff.rfl⟩
  refine wpL_ind I ?_ R.rows.length _ ((hI _ _).2 ⟨_, _, 0, [], rfl, by simp [cRad, cRws, cRw], by simp, by simp, by simp [cRws, cRw], by simp, by simp, by omega, by omega⟩)
  intro k st hst
  obtain ⟨e, h, i, L, rfl, rfl, e1, e2, e14, e15, e16, hk, hno⟩ := (hI _ _).1 hst
  by_cases c : i < R.rows.length
  · have c' : (i : Int) < R.rows.length := by omega
    have hrw := q5 R.rows[i] (List.getElem_mem c)
    have u2 : IntKind.i64.wrap ((i : Int) + 1) = ((i + 1 : Nat) : Int) := by rw [w64_id (by omega) (by omega)]; omega
    have hgi : R.rows.getD i [] = R.rows[i] := by rw [List.getD_eq_getElem?_getD, List.getElem?_eq_getElem c]; rfl
    simp -implicitDefEqProofs [-fzc, e14, e15, e16, c, c', cRws, cRw, vmove, isNil, cRad]
    have hrn : pureR R told i = (List.range R.rows[i].length).findSome? fun p => if okC R told i R.rows[i].length p (R.rows[i].getD p zC) = true then some (R.rows[i].getD p zC).1 else none := by unfold pureR; rw [hgi]
    obtain ⟨J, hJ⟩ : ∃ J : Nat → St → Prop, ∀ k' s', J k' s' ↔ (∃ e h p L, s' = ⟨e, h⟩ ∧ h = .opn [(cRad R).map .c] false :: L ∧
        e 1 = .one (.c (cSs told)) ∧ e 2 = .one (.ptr ⟨0, 0, 0, 1⟩) ∧ e 14 = .one (.c (cRws R.rows)) ∧ e 15 = vI .i64 R.rows.length ∧ e 16 = vI .i64 (i : Nat) ∧ e 6 = vI .i64 (i : Nat) ∧ e 21 = .one (.c (cRw R.rows[i])) ∧ e 22 = vI .i64 R.rows[i].length ∧ e 23 = vI .i64 (p : Nat) ∧ p + k' = R.rows[i].length ∧ ∀ j, j < p → okC R told i R.rows[i].length j (R.rows[i].getD j zC) = false) := ⟨_, fun _ _ => Iff.rfl⟩
    refine wpL_ind J ?_ R.rows[i].length _ ((hJ _ _).2 ⟨_, _, 0, L, rfl, by simp [cRad, cRws, cRw], by simp [e1], by simp [e2], by simp [e14, cRws, cRw], by simp [e15], by simp [e16], by simp, by simp [cRw], by simp, by simp, by omega, by omega⟩)
    clear e1 e2 e14 e15 e16
    intro k' st' hst'
    obtain ⟨e, h, p, L, rfl, rfl, e1, e2, e14, e15, e16, e6, e21, e22, e23, hk', hnp⟩ := (hJ _ _).1 hst'
    by_cases d : p < R.rows[i].length
    · have d' : (p : Int) < R.rows[i].length := by omega
      have u3 : IntKind.i64.wrap ((p : Int) + 1) = ((p + 1 : Nat) : Int) := by rw [w64_id (by omega) (by omega)]; omega
      have hgp : R.rows[i].getD p zC = R.rows[i][p] := by rw [List.getD_eq_getElem?_getD, List.getElem?_eq_getElem d]; rfl
      have hw := (wrongB_iff _).1 (hrw.2.2.2 R.rows[i][p] (List.getElem_mem d))
      have hskip : okC R told i R.rows[i].length p R.rows[i][p] = false → ∀ j, j < p + 1 → okC R told i R.rows[i].length j (R.rows[i].getD j zC) = false := fun hg j hj => by
        by_cases hjp : j = p
        · subst hjp
          rw [hgp]; exact hg
        · exact hnp j (by omega)
      have hhit : okC R told i R.rows[i].length p R.rows[i][p] = true → res = pureA (some R.rows[i][p].1) := fun hg => hgot i _ c hno (by
        rw [hrn]
        exact fs_at d (fun j hj => by rw [if_neg (by rw [hnp j hj]; decide)]) (by rw [hgp, if_pos hg]))
      have hp := hpl R.rows[i][p].1 i c (by omega)
      have hh := hH R.rows[i][p].1 (by omega)
      have hcs := contains_strs (v := R.rows[i][p].1) ht
      obtain ⟨y, hy⟩ : ∃ y, R.rows[i][p] = y := ⟨_, rfl⟩
      rw [hy] at hw hskip hhit hp hh hcs
      obtain ⟨x, fl, pk, bb⟩ := y
      have hcl : cCl R.rows[i][p] = [.v (.string x), .v (.int .i64 fl), .v (.int .i64 pk), .v (.int .i64 bb)] := by rw [hy]; rfl
      dsimp only at hw hhit hp hh hcs
      simp only [cSs] at hcs
      unfold okC at hskip hhit
      dsimp only at hskip hhit
      by_cases g1 : fl = 1
      · by_cases g2 : rplc R x i R.rows[i].length = (p : Int)
        · rw [g2] at hp
          cases g3 : hasB R.fs R.h R.bits x with
          | true =>
            rw [g3] at hh
            cases g4 : told.any (sEq x) with
            | false =>
              rw [g4] at hcs
              rw [hhit (by simp [g1, g2, g3, g4])]
              simp -implicitDefEqProofs [-fzc, fz_v, fz_arr, e1, e2, e6, e21, e22, e23, d, d', cRws, cRw, vmove, isNil, cRad, hcl, vstore, cellsOf?, Ent.wrO, wr, g1, hp, hh, hcs, cSs, pureA]
            | true =>
              rw [g4] at hcs
              have hsk := hskip (by simp [g4])
              simp -implicitDefEqProofs [-fzc, fz_v, fz_arr, e1, e2, e6, e21, e22, e23, d, d', cRws, cRw, vmove, isNil, cRad, hcl, vstore, cellsOf?, Ent.wrO, wr, u3, g1, hp, hh, hcs, cSs]
              exact ⟨k' - 1, by omega, (hJ _ _).2 ⟨_, _, p + 1, _, rfl, by simp [cRad, cRws, cRw]; rfl, by simp [e1, cSs], by simp [e2], by simp [e14, cRws, cRw], by simp [e15], by simp [e16], by simp [e6], by simp [e21, cRw], by simp [e22], by simp, by omega, hsk⟩⟩
          | false =>
            rw [g3] at hh
            have hsk := hskip (by simp [g3])
            simp -implicitDefEqProofs [-fzc, fz_v, fz_arr, e2, e6, e21, e22, e23, d, d', cRws, cRw, vmove, isNil, cRad, hcl, vstore, cellsOf?, Ent.wrO, wr, u3, g1, hp, hh]
            exact ⟨k' - 1, by omega, (hJ _ _).2 ⟨_, _, p + 1, _, rfl, by simp [cRad, cRws, cRw]; rfl, by simp [e1, cSs], by simp [e2], by simp [e14, cRws, cRw], by simp [e15], by simp [e16], by simp [e6], by simp [e21, cRw], by simp [e22], by simp, by omega, hsk⟩⟩
        · obtain ⟨z, hz⟩ : ∃ z, rplc R x i R.rows[i].length = z := ⟨_, rfl⟩
          rw [hz] at hp g2
          have hsk := hskip (by rw [hz]; simp [g2])
          simp -implicitDefEqProofs [-fzc, fz_v, fz_arr, e2, e6, e21, e22, e23, d, d', cRws, cRw, vmove, isNil, cRad, hcl, vstore, cellsOf?, Ent.wrO, wr, u3, g1, hp, g2]
          exact ⟨k' - 1, by omega, (hJ _ _).2 ⟨_, _, p + 1, _, rfl, by simp [cRad, cRws, cRw]; rfl, by simp [e1, cSs], by simp [e2], by simp [e14, cRws, cRw], by simp [e15], by simp [e16], by simp [e6], by simp [e21, cRw], by simp [e22], by simp, by omega, hsk⟩⟩
      · have hsk := hskip (by simp [g1])
        simp -implicitDefEqProofs [-fzc, e21, e22, e23, d, d', cRws, cRw, vmove, isNil, cRad, hcl, vstore, cellsOf?, Ent.wrO, wr, u3, g1]
        exact ⟨k' - 1, by omega, (hJ _ _).2 ⟨_, _, p + 1, _, rfl, by simp [cRad, cRws, cRw]; rfl, by simp [e1, cSs], by simp [e2], by simp [e14, cRws, cRw], by simp [e15], by simp [e16], by simp [e6], by simp [e21, cRw], by simp [e22], by simp, by omega, hsk⟩⟩
    · have d' : ¬ (p : Int) < R.rows[i].length := by omega
      have hp : p = R.rows[i].length := by omega
      subst hp
      have hrnone : pureR R told i = none := by rw [hrn]; exact fs_none fun j hj => by rw [if_neg (by rw [hnp j hj]; decide)]
      simp -implicitDefEqProofs [e16, e22, e23, d', u2]
      refine ⟨k - 1, by omega, (hI _ _).2 ⟨_, _, i + 1, _, rfl, rfl, by simp [e1], by simp [e2], by simp [e14], by simp [e15], by simp, by omega, fun j hj => ?_⟩⟩
      by_cases hji : j = i
      · subst hji; exact hrnone
      · exact hno j (by omega)
  · have c' : ¬ (i : Int) < R.rows.length := by omega
    have hi : i = R.rows.length := by omega
    subst hi
    rw [hfin hno]
    simp -implicitDefEqProofs [e15, e16, c', pureA]
    rfl
end Go.Proofs.YthhbkihhllflfaaF
end

section
/- Is a radar empty; a key's place; all that is pure, again and again. -/
set_option maxRecDepth 8192
set_option maxHeartbeats 1000000
namespace Go.Proofs.YthhbkihhllflfaaF
open Go Go.Proofs.Vm

def nought : ByteArray := ⟨#[0, 0, 0, 0, 0, 0, 0, 0, 0, 0, 0, 0, 0, 0, 0, 0, 0, 0, 0, 0, 0, 0, 0, 0, 0, 0, 0, 0, 0, 0, 0, 0, 0, 0, 0, 0, 0]⟩
/-- Is something in a cell? -/
def fullC (c : RCl) : Bool := decide (c.2.1 ≠ 0) || !sEq c.1 nought
theorem rd_full (c : RCl) : TV.pu 47 [.agg (cCl c)] = some (cB (fullC c)) := by
  refine run47 (by simp) ?_
  obtain ⟨x, fl, pk, bb⟩ := c
  unfold fullC
  by_cases h : fl = 0
  · simp -implicitDefEqProofs [Try.f47, cCl, h]
    simp [sEq, nought]
  · simp -implicitDefEqProofs [Try.f47, cCl, h]
theorem rd_fullrow {r : List RCl} (hl : r.length < 9223372036854775807) : TV.pu 45 [.one (cRw r)] = some (cB (r.any fullC)) := by
  refine run45 (by simp) ?_
  have hc := contains_cells (g := .fn 47 []) rfl (p := fullC) (r := r) (fun n _ => rd_full n) hl
  simp only [cRw] at hc
  simp -implicitDefEqProofs [Try.f45, cRw, hc]
def emptyB (R : Rad) : Bool := rOk R && !R.rows.any (·.any fullC)
theorem rd_Empty {R : Rad} (hs : Seeds R) (hl : Lens R) : TV.pu 23 [.agg (cRad R)] = some (cB (emptyB R)) := by
  refine run23 (by simp) ?_
  have hR := rd_Right hs hl
  have hc := contains_crows (g := .fn 45 []) rfl (p := fun r => r.any fullC) (r := R.rows) (fun n hn => rd_fullrow (by have := hl.2.1 n hn; omega)) (by have := hl.1; omega)
  simp only [cRad, cRws, cRw] at hR hc
  unfold emptyB
  cases c1 : rOk R with
  | false =>
    rw [c1] at hR
    simp -implicitDefEqProofs [Try.f23, cRad, cRws, cRw, hR]
  | true =>
    rw [c1] at hR
    simp -implicitDefEqProofs [Try.f23, cRad, cRws, cRw, hR, hc]

theorem rd_Place {R : Rad} {key : ByteArray} {i : Nat} (hs : Seeds R) (hl : Lens R) (hok : rOk R = true) (hi : i < R.rows.length) (hk : key.size = 37) : TV.pu 28 [.agg (cRad R), cS key, cI .i64 i] = some (cI .i64 (rplc R key i R.rows[i].length)) := by
  refine run28 (by simp) ?_
  have hR := rd_Right hs hl
  rw [hok] at hR
  have hp := rd_place (key := key) hs hl hi (by omega)
  have hk' : (key.size : Int) = 37 := by omega
  have i0 : ¬ (i : Int) < 0 := by omega
  have i1 : ¬ (R.rows.length : Int) ≤ i := by omega
  simp only [cRad, cRws, cRw] at hR hp
  simp -implicitDefEqProofs [Try.f28, cRad, cRws, cRw, hR, hp, hk, i0, i1]
end Go.Proofs.YthhbkihhllflfaaF
end

section
/- A radar that is changed stays right; a peel ends. -/
set_option maxRecDepth 8192
set_option maxHeartbeats 1000000
namespace Go.Proofs.YthhbkihhllflfaaF
open Go Go.Proofs.Vm

theorem rOk_of {r : Rad} (h1 : fOk r.h r.bits = true) (h2 : r.fs = hrow r.s 0) (h3 : 1 ≤ r.rows.length) (h4 : r.rows.length ≤ 7) (h5 : ∀ x ∈ r.rows, 1 ≤ x.length ∧ x.length ≤ 256 ∧ x.length = (r.rows.headD []).length ∧ ∀ c ∈ x, wrongB c = false) : rOk r = true := by
  unfold rOk
  simp only [Bool.and_eq_true, decide_eq_true_eq, Bool.not_eq_true']
  refine ⟨⟨⟨⟨h1, h2⟩, h3⟩, h4⟩, List.any_eq_false.2 fun x hx => ?_⟩
  obtain ⟨a1, a2, a3, a4⟩ := h5 x hx
  unfold rowW
  simp only [Bool.or_eq_true, decide_eq_true_eq, not_or, Bool.not_eq_true]
  exact ⟨⟨⟨by omega, by omega⟩, by omega⟩, List.any_eq_false.2 fun c hc => by rw [a4 c hc]; decide⟩

theorem mem_modify {α : Type} {f : α → α} {x : α} : ∀ {l : List α} {q : Nat}, x ∈ l.modify q f → x ∈ l ∨ ∃ h : q < l.length, x = f l[q]
  | [], q, h => by simp at h
  | y :: l, 0, h => by
    rw [List.modify_zero_cons] at h
    rcases List.mem_cons.1 h with h | h
    · exact .inr ⟨by simp, h⟩
    · exact .inl (List.mem_cons_of_mem _ h)
  | y :: l, q + 1, h => by
    rw [List.modify_succ_cons] at h
    rcases List.mem_cons.1 h with h | h
    · exact .inl (by rw [h]; exact List.mem_cons_self)
    · rcases mem_modify h with h | ⟨h1, h2⟩
      · exact .inl (List.mem_cons_of_mem _ h)
      · exact .inr ⟨by simpa using h1, by simpa using h2⟩
theorem updA_at (f : RCl → RCl) (s : Int) (key : ByteArray) (rows : List (List RCl)) (j : Nat) (h : j < (updA f s key rows).length) : (updA f s key rows)[j] = updR f s key (j : Int) (rows[j]'(by rw [updA, updTo_len] at h; exact h)) := by
  have h' : j < rows.length := by rw [updA, updTo_len] at h; exact h
  simp [updA, updTo, h']
theorem updA_len (f : RCl → RCl) (s : Int) (key : ByteArray) (rows : List (List RCl)) : (updA f s key rows).length = rows.length := updTo_len ..
theorem curC_mem {s : Int} {key : ByteArray} {j : Int} {r : List RCl} (h : 1 ≤ r.length) : curC s key j r ∈ r := by
  have hc := hcell_range (hrow s (j + 1)) key (r.length : Int) (by omega)
  have hq : (hcell (hrow s (j + 1)) key (r.length : Int)).toNat < r.length := by omega
  rw [curC, List.getD_eq_getElem?_getD, List.getElem?_eq_getElem hq]
  exact List.getElem_mem hq
theorem updA_ok {R : Rad} {f : RCl → RCl} {key : ByteArray} {bits' : List Bool} (hok : rOk R = true) (hb : fOk R.h bits' = true) (hf : ∀ j, ∀ h : j < R.rows.length, wrongB (f (curC R.s key (j : Int) R.rows[j])) = false) : rOk { R with bits := bits', rows := updA f R.s key R.rows } = true := by
  obtain ⟨q1, q2, q3, q4, q5⟩ := rOk_facts hok
  have hhead : ((updA f R.s key R.rows).headD []).length = (R.rows.headD []).length := by
    have h0 : 0 < R.rows.length := by omega
    have h1 : 0 < (updA f R.s key R.rows).length := by rw [updA_len]; exact h0
    have e1 : ∀ (l : List (List RCl)) (h : 0 < l.length), l.headD [] = l[0] := fun l h => by cases l with | nil => simp at h | cons x t => rfl
    rw [e1 _ h0, e1 _ h1, updA_at, updR_len]
  refine rOk_of hb q2 (by rw [updA_len]; exact q3) (by rw [updA_len]; exact q4) fun x hx => ?_
  obtain ⟨j, hj, rfl⟩ := List.getElem_of_mem hx
  have hj' : j < R.rows.length := by rw [updA_len] at hj; exact hj
  dsimp only
  rw [hhead, updA_at, updR_len]
  obtain ⟨a1, a2, a3, a4⟩ := q5 _ (List.getElem_mem hj')
  refine ⟨a1, a2, a3, fun c hc => ?_⟩
  rcases mem_modify hc with h | ⟨h1, h2⟩
  · exact a4 c h
  · have := hf j hj'
    rw [curC, List.getD_eq_getElem?_getD, List.getElem?_eq_getElem h1] at this
    rw [h2]; exact this
theorem remC_ok {key : ByteArray} {c : RCl} (h : wrongB c = false) : wrongB (remC key c) = false := by
  rw [wrongB_iff] at h ⊢
  obtain ⟨h1, h2, h3, h4, h5, h6, h7⟩ := h
  refine ⟨by simp only [remC]; rw [xorK_size]; exact h1, ?_, ?_, h4, h5, h6, h7⟩
  · simp only [remC]; omega
  · simp only [remC]; omega
def remR (R : Rad) (key : ByteArray) : Rad := { R with rows := updA (remC key) R.s key R.rows }
theorem remR_ok {R : Rad} {key : ByteArray} (hok : rOk R = true) : rOk (remR R key) = true := by
  obtain ⟨q1, q2, q3, q4, q5⟩ := rOk_facts hok
  exact updA_ok hok q1 fun j h => remC_ok ((q5 _ (List.getElem_mem h)).2.2.2 _ (curC_mem (q5 _ (List.getElem_mem h)).1))
theorem remR_lens {R : Rad} {key : ByteArray} (hl : Lens R) : Lens (remR R key) := by
  refine ⟨by simp only [remR]; rw [updA_len]; exact hl.1, fun x hx => ?_, hl.2.2⟩
  obtain ⟨j, hj, rfl⟩ := List.getElem_of_mem hx
  simp only [remR] at hj ⊢
  rw [updA_at, updR_len]
  exact hl.2.1 _ (List.getElem_mem _)

/-! the peel ends: fewer and fewer cells with a flow -/
def pos (c : RCl) : Bool := decide (1 ≤ c.2.1)
def posN (R : Rad) : Nat := (R.rows.map (·.countP pos)).sum
theorem countP_modify {α : Type} {p : α → Bool} {f : α → α} (hf : ∀ x, p (f x) = true → p x = true) : ∀ (l : List α) (q : Nat), (l.modify q f).countP p ≤ l.countP p
  | [], q => by simp
  | y :: l, 0 => by
    rw [List.modify_zero_cons, List.countP_cons, List.countP_cons]
    by_cases h : p (f y) = true
    · simp [h, hf y h]
    · simp [h]
  | y :: l, q + 1 => by
    rw [List.modify_succ_cons, List.countP_cons, List.countP_cons]
    have := countP_modify hf l q
    omega
theorem countP_modify_lt {α : Type} {p : α → Bool} {f : α → α} : ∀ (l : List α) (q : Nat) (h : q < l.length), p l[q] = true → p (f l[q]) = false → (l.modify q f).countP p < l.countP p
  | [], q, h, _, _ => by simp at h
  | y :: l, 0, _, h1, h2 => by
    rw [List.modify_zero_cons, List.countP_cons, List.countP_cons]
    have h1 : p y = true := h1
    have h2 : p (f y) = false := h2
    simp [h1, h2]
  | y :: l, q + 1, h, h1, h2 => by
    rw [List.modify_succ_cons, List.countP_cons, List.countP_cons]
    have := countP_modify_lt l q (by simpa using h) (by simpa using h1) (by simpa using h2)
    omega
theorem sum_lt : ∀ (l m : List Nat), l.length = m.length → (∀ j (h : j < l.length) (h' : j < m.length), l[j] ≤ m[j]) → ∀ i (h : i < l.length) (h' : i < m.length), l[i] < m[i] → l.sum < m.sum
  | [], _, _, _, i, h, _, _ => by simp at h
  | _ :: _, [], hl, _, _, _, _, _ => by simp at hl
  | x :: l, y :: m, hl, hle, i, h, h', hlt => by
    have hxy : x ≤ y := hle 0 (by simp) (by simp)
    have hle2 : ∀ j (h : j < l.length) (h' : j < m.length), l[j] ≤ m[j] := fun j a b => hle (j + 1) (by simpa using a) (by simpa using b)
    have hl2 : l.length = m.length := by simpa using hl
    have hs : l.sum ≤ m.sum := by
      clear hlt h h' hle hl
      induction l generalizing m with
      | nil => simp
      | cons a l ih =>
        cases m with
        | nil => simp at hl2
        | cons b m =>
          have h0 := hle2 0 (by simp) (by simp)
          have := ih m (fun j p q => hle2 (j + 1) (by simpa using p) (by simpa using q)) (by simpa using hl2)
          simp at h0 ⊢
          omega
    rw [List.sum_cons, List.sum_cons]
    cases i with
    | zero => simp at hlt; omega
    | succ i =>
      have := sum_lt l m hl2 hle2 i (by simpa using h) (by simpa using h') (by simpa using hlt)
      omega
theorem pureOf_some {R : Rad} {told : List ByteArray} {k : ByteArray} (h : pureOf R told = some k) : ∃ (i p : Nat) (hi : i < R.rows.length) (hp : p < R.rows[i].length), okC R told i R.rows[i].length p R.rows[i][p] = true ∧ R.rows[i][p].1 = k := by
  unfold pureOf at h
  obtain ⟨i, hi, h⟩ := List.exists_of_findSome?_eq_some h
  have hi := List.mem_range.1 hi
  unfold pureR at h
  have hgi : R.rows.getD i [] = R.rows[i] := by rw [List.getD_eq_getElem?_getD, List.getElem?_eq_getElem hi]; rfl
  rw [hgi] at h
  obtain ⟨p, hp, h⟩ := List.exists_of_findSome?_eq_some h
  have hp := List.mem_range.1 hp
  have hgp : R.rows[i].getD p zC = R.rows[i][p] := by rw [List.getD_eq_getElem?_getD, List.getElem?_eq_getElem hp]; rfl
  rw [hgp] at h
  split at h
  · rename_i hc
    exact ⟨i, p, hi, hp, hc, Option.some.inj h⟩
  · cases h
theorem okC_facts {R : Rad} {told : List ByteArray} {i n p : Nat} {c : RCl} (h : okC R told i n p c = true) : c.2.1 = 1 ∧ rplc R c.1 i n = (p : Int) ∧ hasB R.fs R.h R.bits c.1 = true ∧ c.1 ∉ told := by
  unfold okC at h
  simp only [Bool.and_eq_true, decide_eq_true_eq, Bool.not_eq_true', List.any_eq_false] at h
  obtain ⟨⟨⟨h1, h2⟩, h3⟩, h4⟩ := h
  exact ⟨h1, h2, h3, fun hx => h4 _ hx (sEq_iff.2 rfl)⟩
theorem posN_rem {R : Rad} {told : List ByteArray} {k : ByteArray} (h : pureOf R told = some k) : posN (remR R k) < posN R := by
  obtain ⟨i, p, hi, hp, hc, rfl⟩ := pureOf_some h
  obtain ⟨h1, h2, -, -⟩ := okC_facts hc
  unfold posN
  have hmono : ∀ x, pos (remC R.rows[i][p].1 x) = true → pos x = true := fun x hx => by
    have hx : 1 ≤ max (x.2.1 - 1) (-1099511627776) := of_decide_eq_true hx
    exact decide_eq_true (by omega)
  refine sum_lt _ _ (by simp [remR, updA_len]) (fun j a b => ?_) i (by simpa [remR, updA_len] using hi) (by simpa using hi) ?_
  · simp only [List.getElem_map, remR, updA_at]
    exact countP_modify hmono _ _
  · simp only [List.getElem_map, remR, updA_at]
    have hq : (hcell (hrow R.s ((i : Int) + 1)) R.rows[i][p].1 (R.rows[i].length : Int)).toNat = p := by
      have : hcell (hrow R.s ((i : Int) + 1)) R.rows[i][p].1 (R.rows[i].length : Int) = (p : Int) := h2
      rw [this]; rfl
    unfold updR
    rw [hq]
    exact countP_modify_lt _ _ hp (by simp [pos, h1]) (decide_eq_false (by simp only [remC, h1]; omega))
theorem pureOf_size {R : Rad} {told : List ByteArray} {k : ByteArray} (hok : rOk R = true) (h : pureOf R told = some k) : k.size = 37 := by
  obtain ⟨i, p, hi, hp, hc, rfl⟩ := pureOf_some h
  obtain ⟨q1, q2, q3, q4, q5⟩ := rOk_facts hok
  exact ((wrongB_iff _).1 ((q5 _ (List.getElem_mem hi)).2.2.2 _ (List.getElem_mem hp))).1

/-- A peel of so many rounds. -/
def peelN : Nat → Rad → List ByteArray → List ByteArray × Rad
  | 0, R, out => (ssort out, R)
  | n + 1, R, out => match pureOf R out with
    | some k => peelN n (remR R k) (out ++ [k])
    | none => (ssort out, R)
def peel (R : Rad) : List ByteArray × Rad := peelN (posN R) R []
end Go.Proofs.YthhbkihhllflfaaF
end

section
/- All that is pure, again and again. -/
set_option maxRecDepth 8192
set_option maxHeartbeats 1000000
namespace Go.Proofs.YthhbkihhllflfaaF
open Go Go.Proofs.Vm

theorem sort_strs {H : Hp} {id : Nat} {l : List ByteArray} (h : H[id]? = some (.clo (l.map cStr) false)) (hlt : l.length < 4611686018427387904) : TV.S 37 [.one (.sl id 0 l.length l.length)] H = some (und, H.set id (.clo ((ssort l).map cStr) false)) := by
  refine TT_baseS ?_
  show (if (37 : FuncId) = 37 then sortSRun [.one (.sl id 0 l.length l.length)] H else none) = _
  rw [if_pos rfl]
  have hm : mapO strOf1 (l.map cStr) = some l := mapO_strOf1 l
  simp only [sortSRun, h, hm, List.length_map]
  simp [hlt]
  rfl
theorem posN_le {R : Rad} (hok : rOk R = true) : posN R ≤ 1792 := by
  obtain ⟨q1, q2, q3, q4, q5⟩ := rOk_facts hok
  have key : ∀ l : List (List RCl), (∀ x ∈ l, x.length ≤ 256) → (l.map (·.countP pos)).sum ≤ 256 * l.length := by
    intro l
    induction l with
    | nil => intro _; simp
    | cons x l ih =>
      intro h
      have h1 := h x List.mem_cons_self
      have h2 := ih fun y hy => h y (List.mem_cons_of_mem _ hy)
      have h3 := List.countP_le_length (p := pos) (l := x)
      simp only [List.map_cons, List.sum_cons, List.length_cons]
      omega
  have := key R.rows fun x hx => (q5 x hx).2.1
  unfold posN
  omega
theorem peelN_none {R : Rad} {out : List ByteArray} (h : pureOf R out = none) : ∀ n, peelN n R out = (ssort out, R)
  | 0 => rfl
  | n + 1 => by rw [peelN, h]
theorem cStr_all (l : List ByteArray) : AllLen (l.map cStr) 1 := by intro x hx; obtain ⟨y, _, rfl⟩ := List.mem_map.1 hx; rfl
theorem take_str (l : List ByteArray) : (l.map cStr).take l.length = l.map cStr := List.take_of_length_le (by simp)
theorem ssort_len (l : List ByteArray) : (ssort l).length = l.length := List.length_mergeSort _
theorem take_ssort (l : List ByteArray) : ((ssort l).map cStr).take l.length = (ssort l).map cStr := List.take_of_length_le (by simp [ssort_len])
def peelA (r : List ByteArray × Rad) : CA := .tup [(false, [cSs r.1]), (true, cRad r.2)]
theorem rd_Peel {R : Rad} (hs : Seeds R) (hl : Lens R) (hok : rOk R = true) : TV.pu 15 [.agg (cRad R)] = some (peelA (peel R)) := by
  refine run15 (by simp) ?_
  obtain ⟨res, hres⟩ : ∃ res, peel R = res := ⟨_, rfl⟩
  rw [hres]
  simp -implicitDefEqProofs [Try.f15, cRad, vmove, isNil]
  obtain ⟨I, hI⟩ : ∃ I : Nat → St → Prop, ∀ k s', I k s' ↔ (∃ e h R' out n L E1 E3 E4, s' = ⟨e, h⟩ ∧ h = .opn [(cRad R').map .c] false :: E1 :: .opn [[.c (.v (.int .u64 0)), .c (.v (.int .u64 0)), .c (.v (.int .i64 0)), .sl 3 0 0 0, .sl 4 0 0 0]] false :: E3 :: E4 :: .clo (out.map cStr) false :: L ∧
      e 1 = .one (.ptr ⟨0, 0, 0, 1⟩) ∧ e 3 = .one (.ptr ⟨2, 0, 0, 1⟩) ∧ e 4 = .one (.sl 5 0 out.length out.length) ∧ Seeds R' ∧ Lens R' ∧ rOk R' = true ∧ k = posN R' ∧ posN R' ≤ n ∧ peelN n R' out = res ∧ out.length + posN R' ≤ 1792) := ⟨_, fun _ _ => Iff.rfl⟩
  refine wpL_ind I ?_ (posN R) _ ((hI _ _).2 ⟨_, _, R, [], posN R, [], .clo [] false, .clo [] false, .clo [] false, rfl, by simp [cRad], by simp, by simp, by simp, hs, hl, hok, rfl, Nat.le_refl _, hres, by have := posN_le hok; simpa using this⟩)
  clear hs hl hok
  intro k st hst
  obtain ⟨e, h, R', out, n, L, E1, E3, E4, rfl, rfl, e1, e3, e4, hs, hl, hok, rfl, hn, hpn, hol⟩ := (hI _ _).1 hst
  have hP := rd_Pure (told := out) hs hl hok (by omega)
  simp only [cRad, cSs, cRws, cRw] at hP
  cases hpo : pureOf R' out with
  | none =>
    rw [hpo] at hP
    have hr := peelN_none hpo n
    rw [hpn] at hr
    subst hr
    have hso := sort_strs (H := .opn [(cRad R').map .c] false :: E1 :: .opn [[.c (.v (.int .u64 0)), .c (.v (.int .u64 0)), .c (.v (.int .i64 0)), .sl 3 0 0 0, .sl 4 0 0 0]] false :: E3 :: E4 :: .clo (out.map cStr) false :: L) (id := 5) (l := out) rfl (by omega)
    simp only [pureA] at hP
    simp only [cRad, cRws, cRw, List.map_cons, List.map_nil] at hso
    simp -implicitDefEqProofs [e1, e3, e4, take_str, cRad, cRws, cRw, vmove, isNil, hP, hso, vstore, cellsOf?, Ent.wrO, wr]
    simp [qa, comps, peelA, cSs, cRad, cRws, cRw, ssort_len, take_ssort]
  | some key =>
    rw [hpo] at hP
    have hk37 := pureOf_size hok hpo
    have hdec := posN_rem hpo
    have hRm := rd_Remove hs hl hok hk37
    simp only [pureA] at hP
    simp only [cRad, cRws, cRw] at hRm
    have b1 : 16 * (out.length + 1) ≤ 140737488355328 := by omega
    have b2 : out.length + 1 ≤ 4611686018427387904 := by omega
    have hal := cStr_all out
    simp -implicitDefEqProofs [e1, e4, take_str, cRad, cRws, cRw, vmove, isNil, hP, hRm, vstore, cellsOf?, Ent.wrO, wr, vappend_sp es29 es29 el9, vbuildSlice_eq es29 el9, fzParts, setAll, rchParts, rch, elemsOf, b1, b2, hal]
    obtain ⟨m, rfl⟩ : ∃ m, n = m + 1 := ⟨n - 1, by omega⟩
    rw [peelN, hpo] at hpn
    exact ⟨posN (remR R' key), hdec, (hI _ _).2 ⟨_, _, remR R' key, out ++ [key], m, L ++ [.clo [[CV.v (.string key)]] false], E1, E3, E4, rfl, by simp [remR, cRad, cRws, cRw, cStr], by simp [e1], by simp [e3], by simp, hs, remR_lens hl, remR_ok hok, rfl, by omega, hpn, by simp; omega⟩⟩
end Go.Proofs.YthhbkihhllflfaaF
end

section
/- New radars. -/
set_option maxRecDepth 8192
set_option maxHeartbeats 1000000
namespace Go.Proofs.YthhbkihhllflfaaF
open Go Go.Proofs.Vm

theorem vcopy_eq {P : Program} {H : Hp} {t e : TypeId} {sz b : Nat} {z : List CV} (he : elemOfSlice P t = some e) (hel : elOf P e = some (sz, b, z)) {id o n tot : Nat} {l xs : List (List CV)} {x : AV} (hx : elemsOf H x = some xs) (hl : H[id]? = some (.clo l false)) (h1 : l.length = tot) (h2 : o + n ≤ tot) (h3 : AllLen l sz) (h4 : AllLen xs sz) :
    vcopy P H t (.one (.sl id o n tot)) x = some (.one (.c (.v (.int .i64 (min xs.length n : Nat)))), H.set id (.clo (wr l o (xs.take n)) false)) := by
  obtain ⟨i, v, g1, g2, g3, g4, g5, g6, g7⟩ := elOf_facts hel
  unfold vcopy
  rw [hx, he]
  dsimp only
  rw [hl, g1]
  dsimp only
  rw [if_pos ⟨h1, h2, by rw [g3]; exact h3, by rw [g3]; exact h4⟩]
theorem wr_eq {α : Type} : ∀ (xs l : List α) (o : Nat), o + xs.length ≤ l.length → wr l o xs = l.take o ++ (xs ++ l.drop (o + xs.length))
  | [], l, o, _ => by simp [wr]
  | x :: xs, l, o, h => by
    have h' : o + (xs.length + 1) ≤ l.length := h
    rw [wr, wr_eq xs _ _ (by simp; omega)]
    rw [List.take_set, List.drop_set_of_lt (by omega), List.take_add_one, List.getElem?_eq_getElem (by omega)]
    have : o < l.length := by omega
    rw [List.length_cons, show o + 1 + xs.length = o + (xs.length + 1) by omega]
    simp only [Option.toList_some]
    rw [List.set_append_right _ _ (by simp; omega)]
    simp [Nat.min_eq_left (Nat.le_of_lt this)]
/-- The first so many are it, the other ones not yet. -/
def repP {α : Type} (c z : α) (k n : Nat) : List α := List.replicate k c ++ List.replicate (n - k) z
theorem repP_len {α : Type} (c z : α) {k n : Nat} (h : k ≤ n) : (repP c z k n).length = n := by simp [repP]; omega
theorem repP_wr {α : Type} (c z : α) {k m n : Nat} (h : k + m ≤ n) : wr (repP c z k n) k (List.replicate m c) = repP c z (k + m) n := by
  rw [wr_eq _ _ _ (by rw [repP_len _ _ (by omega)]; simpa using h)]
  unfold repP
  rw [List.take_left' (by simp), List.length_replicate, List.drop_append, List.drop_eq_nil_of_le (by simp), List.length_replicate, List.drop_replicate, List.nil_append, ← List.append_assoc, List.replicate_append_replicate, show n - k - (k + m - k) = n - (k + m) by omega]
theorem repP_take {α : Type} (c z : α) {k n : Nat} : (repP c z k n).take k = List.replicate k c := by unfold repP; rw [List.take_left' (by simp)]
theorem slo_from {P : Program} {H : Hp} {t e sz nid : Nat} (he : elemOfSlice P t = some e) (hs : pv P (sizeOf e) = some sz) {id n tot k : Nat} (hl : lenIs H id tot = true) (h1 : k < n) (h2 : elAt H id tot k = some sz) : vslice P H nid t (.one (.sl id 0 n tot)) (some (vI .i64 (k : Int))) none none = qa (.one (.sl id k (n - k) tot)) := by
  unfold vslice
  simp only [he, hs, optInt, Option.getD_none, Option.getD_some]
  rw [if_pos ⟨hl, by omega, by omega, by omega, .inr (by simpa using h2)⟩]
  simp
theorem slo_to {P : Program} {H : Hp} {t e sz nid : Nat} (he : elemOfSlice P t = some e) (hs : pv P (sizeOf e) = some sz) {id n tot k : Nat} (hl : lenIs H id tot = true) (h1 : k ≤ n) (h2 : elAt H id tot 0 = some sz) : vslice P H nid t (.one (.sl id 0 n tot)) none (some (vI .i64 (k : Int))) none = qa (.one (.sl id 0 k tot)) := by
  unfold vslice
  simp only [he, hs, optInt, Option.getD_none, Option.getD_some]
  rw [if_pos ⟨hl, by omega, by omega, by omega, .inr (by simpa using h2)⟩]
  simp
theorem bits_Mul {a b : Int} (ha0 : 0 ≤ a) (ha : a < 18446744073709551616) (hb0 : 0 ≤ b) (hb : b < 18446744073709551616) (h : a * b < 18446744073709551616) : TV.pu 76 [cI .u64 a, cI .u64 b] = some (.tup [(false, [.v (.int .u64 0)]), (false, [.v (.int .u64 (a * b))])]) := by
  refine run76 (by simp) ?_
  have hm := Mul64 ha0 ha hb0 hb
  have h0 : 0 ≤ a * b := Int.mul_nonneg ha0 hb0
  rw [show a * b / 18446744073709551616 = 0 by omega, show a * b % 18446744073709551616 = a * b by omega] at hm
  simp -implicitDefEqProofs [Try.f76, hm]
theorem cells_Repeat {c : RCl} {n : Nat} (h0 : 1 ≤ n) (h1 : n ≤ 256) : TV.pu 50 [.one (cRw [c]), cI .i64 n] = some (.one (cRw (List.replicate n c))) := by
  refine run50 (by simp) ?_
  have hm := bits_Mul (a := 1) (b := (n : Int)) (by omega) (by omega) (by omega) (by omega) (by omega)
  have hn0 : ¬ (n : Int) < 0 := by omega
  have w0 : IntKind.u64.wrap 1 = 1 := by decide
  have w1 : IntKind.u64.wrap (n : Int) = (n : Int) := by rw [IntKind.wrap_u64]; omega
  have w2 : IntKind.i64.wrap (n : Int) = (n : Int) := w64_id (by omega) (by omega)
  have hg : ¬ (9223372036854775807 : Int) < n := by omega
  have hz : n ≠ 0 := by omega
  rw [Int.one_mul] at hm
  simp -implicitDefEqProofs [Try.f50, cRw, vmove, isNil, hn0, w0, w1, w2, hm, hg, vmakeSlice_eq es72 el74, small, hz]
  refine ⟨⟨by omega, by omega⟩, ?_⟩
  have hcp : ∀ (k : Nat) (L : Hp) (x : AV) (xs : List (List CV)), k ≤ n → elemsOf (.clo [] false :: .clo (repP (cCl c) (cCl zC) k n) false :: L) x = some xs → AllLen xs 4 → vcopy Try.prog (.clo [] false :: .clo (repP (cCl c) (cCl zC) k n) false :: L) 72 (.one (.sl 1 k (n - k) n)) x = some (.one (.c (.v (.int .i64 (min xs.length (n - k) : Nat)))), .clo [] false :: .clo (wr (repP (cCl c) (cCl zC) k n) k (xs.take (n - k))) false :: L) := fun k L x xs hk hx hxs => by
    exact vcopy_eq es72 el74 hx rfl (repP_len _ _ hk) (by omega) (fun y hy => by
      rcases List.mem_append.1 hy with h | h
      · rw [List.eq_of_mem_replicate h]; rfl
      · rw [List.eq_of_mem_replicate h]; rfl) hxs
  have h0 : vcopy Try.prog [.clo [] false, .clo (List.replicate n [.v (.string ByteArray.empty), .v (.int .i64 0), .v (.int .i64 0), .v (.int .i64 0)]) false] 72 (.one (.sl 1 0 n n)) (.one (.c (.arr [cCl c]))) = some (.one (.c (.v (.int .i64 1))), [.clo [] false, .clo (repP (cCl c) (cCl zC) 1 n) false]) := by
    have h := hcp 0 [] (.one (.c (.arr [cCl c]))) [cCl c] (by omega) rfl (by intro y hy; rw [List.mem_singleton.1 hy]; rfl)
    rw [show [cCl c].take (n - 0) = List.replicate 1 (cCl c) by rw [List.take_of_length_le (by simp; omega)]; rfl, repP_wr _ _ (by omega), show min [cCl c].length (n - 0) = 1 by simp; omega] at h
    simp only [repP, Nat.sub_zero, List.replicate_zero, List.nil_append] at h ⊢
    exact h
  simp -implicitDefEqProofs [h0]
  obtain ⟨I, hI⟩ : ∃ I : Nat → St → Prop, ∀ m s', I m s' ↔ (∃ e k, s' = ⟨e, [.clo [] false, .clo (repP (cCl c) (cCl zC) k n) false]⟩ ∧ e 7 = .one (.sl 1 0 n n) ∧ e 8 = vI .i64 (k : Nat) ∧ 1 ≤ k ∧ k ≤ n ∧ m = n - k) := ⟨_, fun _ _ => Iff.rfl⟩
  refine wpL_ind I ?_ (n - 1) _ ((hI _ _).2 ⟨_, 1, rfl, by simp, by simp, by omega, by omega, rfl⟩)
  intro m st hst
  obtain ⟨e, k, rfl, e7, e8, hk1, hk2, rfl⟩ := (hI _ _).1 hst
  by_cases d : k < n
  · have d' : (k : Int) < n := by omega
    have hl := repP_len (cCl c) (cCl zC) hk2
    have ht := repP_take (cCl c) (cCl zC) (k := k) (n := n)
    obtain ⟨q, hq⟩ : ∃ q, q = min k (n - k) := ⟨_, rfl⟩
    have hc := hcp k [] (.one (.sl 1 0 k n)) (List.replicate k (cCl c)) hk2 (by simp [elemsOf, hl, ht]) (by intro y hy; rw [List.eq_of_mem_replicate hy]; rfl)
    rw [List.length_replicate, List.take_replicate, Nat.min_comm (n - k) k, ← hq, repP_wr _ _ (by omega)] at hc
    have w3 : IntKind.i64.wrap ((k : Int) + (q : Int)) = ((k + q : Nat) : Int) := by rw [w64_id (by omega) (by omega)]; omega
    have hle : lenIs [.clo [] false, .clo (repP (cCl c) (cCl zC) k n) false] 1 n = true := by simp [lenIs, Ent.len, hl]
    have hel : ∀ j, j < n → elAt [.clo [] false, .clo (repP (cCl c) (cCl zC) k n) false] 1 n j = some 4 := fun j hj => by
      have hj' : j < (repP (cCl c) (cCl zC) k n).length := by rw [hl]; exact hj
      simp only [elAt, List.getElem?_cons_succ, List.getElem?_cons_zero, hl, if_true, List.getElem?_eq_getElem hj', Option.map_some]
      rcases List.mem_append.1 (List.getElem_mem hj') with h | h
      · rw [List.eq_of_mem_replicate h]; rfl
      · rw [List.eq_of_mem_replicate h]; rfl
    have hf := slo_from (P := Try.prog) (nid := 2) es72 sz74 hle d (hel k d)
    have hto := slo_to (P := Try.prog) (nid := 2) es72 sz74 hle hk2 (hel 0 (by omega))
    simp -implicitDefEqProofs [e7, e8, d', hc, w3, hl, hf, hto]
    exact ⟨n - (k + q), by omega, (hI _ _).2 ⟨_, k + q, rfl, by simp [e7], by simp, by omega, by omega, rfl⟩⟩
  · have hkn : k = n := by omega
    subst hkn
    have hrk : repP (cCl c) (cCl zC) k k = (List.replicate k c).map cCl := by simp [repP]
    rw [hrk]
    simp -implicitDefEqProofs [e7, e8]
end Go.Proofs.YthhbkihhllflfaaF
end
