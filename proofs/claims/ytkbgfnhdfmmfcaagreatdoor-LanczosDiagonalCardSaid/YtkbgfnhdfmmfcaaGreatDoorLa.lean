/-Closed evaluations for the diagonal law (printed by gen/mlba.py). -/
import Derived.Test.YtkbgfnhdfmmfcaaGreatDoorFn
import Derived.KernelRfl
set_option linter.unusedVariables false
set_option maxRecDepth 100000
namespace Go.Vs.F
def oneF:Int:=4607182418800017408
def tabD:LI:=[4607182418800017408,4611686018427387904,4613937818241073152,4616189618054758400,4617315517961601024,4618441417868443648,4619567317775286272,4620693217682128896,4621256167635550208,4621819117588971520,4622382067542392832,4622945017495814144,4623507967449235456,4624070917402656768,4624633867356078080,4625196817309499392,4625478292286210048,4625759767262920704,4626041242239631360,4626322717216342016,4626604192193052672,4626885667169763328,4627167142146473984,4627448617123184640,4627730092099895296,4628011567076605952,4628293042053316608,4628574517030027264,4628855992006737920,4629137466983448576,4629418941960159232,4629700416936869888,4629841154425225216,4629981891913580544,4630122629401935872,4630263366890291200,4630404104378646528,4630544841867001856,4630685579355357184,4630826316843712512,4630967054332067840,4631107791820423168,4631248529308778496,4631389266797133824,4631530004285489152,4631670741773844480,4631811479262199808,4631952216750555136,4632092954238910464,4632233691727265792]
def tabQ:LI:=[4607182418800017408,4602678819172646912,4599676419421066581,4598175219545276416,4596373779694328218,4595172819793696085,4594314991293244562,4593671619917905920,4592670820000712476,4591870180066957722,4591215111030249286,4590669220166325589,4590207312512236308,4589811391665874066,4589468260265693457,4589168020290535424,4588638185040256542,4588167220373341980,4587745830934523688,4587366580439587226,4587023449039406616,4586711511402878790,4586426698778222948,4586165620538955093,4585925428558828667,4585703712884865812,4585498420594159464,4585307792038503570,4585130310279789462,4584964660638322961,4584809698070499460,4584664420663164928,4584391475231203080,4584134585412886046,4583892375012758557,4583663620745971484,4583447231574686416,4583242231307153192,4583047743873852442,4582862980812216730,4582687230582855930,4582519849412036120,4582360253411952116,4582207911775508294,4582062340878461975,4581923099150852452,4581789782603141207,4581662020911584597,4581539473982948665,4581421828931458171]
def eN (n p:Nat) (w:Int):LI:=(List.replicate n (0:Int)).set p w
def combP:List (Nat×Nat):=(List.range 5).flatMap fun n=>(List.range (n+1)).map fun p=>(n+1,p)
theorem qf {n p:Nat} (hn:n<=5) (hp:p<n):(n,p)∈combP:=by
 have:n=1\/n=2\/n=3\/n=4\/n=5:=O;unfold combP;refine List.mem_flatMap.2 ⟨n-1,List.mem_range.2 O,List.mem_map.2 ⟨p,List.mem_range.2 O,?_⟩⟩;rw[show n-1+1=n by omega]
theorem of_map {α β:Type} {l:List α} {f g:α->β} (h:l.map f=l.map g) {a:α} (ha:a∈l):f a=g a:=
 List.map_inj_left.1 h a ha
theorem qso (j:Nat):((List.range 50).map fun v=>g26 (j+300) (((1+v:Nat)):Int) 0)=(List.range 50).map fun v=>some (tabD.getD v 0,(),(),()):=by kernel_rfl
theorem qvd (j:Nat):((List.range 50).map fun v=>g28 (j+300) 4607182418800017408 (tabD.getD v 0) 0)=(List.range 50).map fun v=>some (tabQ.getD v 0,(),(),(),()):=by kernel_rfl
theorem qtn (j:Nat):(tabD.map fun d=>g47 (j+300) d)=tabD.map fun d=>some (true,(),()):=by kernel_rfl
theorem qt6 (j:Nat):(tabD.map fun d=>g45 (j+300) d)=tabD.map fun d=>some (1,(),()):=by kernel_rfl
theorem qut (j:Nat):(tabD.map fun d=>((g112 (j+300) d).bind fun y2=>g111 (j+300) false false [] 0 y2.1.1 y2.1.2.1 y2.1.2.2.1 y2.1.2.2.2.1 0))=tabD.map fun d=>some (0,(),(),(),()):=by kernel_rfl
theorem qtq (j:Nat):((List.range 50).map fun v=>((g112 (j+300) (tabD.getD v 0)).bind fun y2=>g111 (j+300) false false [1] 0 y2.1.1 y2.1.2.1 y2.1.2.2.1 y2.1.2.2.2.1 0))=(List.range 50).map fun v=>some (tabQ.getD v 0,(),(),(),()):=by kernel_rfl
theorem qv1 (j:Nat):(tabD.all fun d=>(g112 (j+300) d).isSome)=true:=by kernel_rfl
theorem qv9 (j:Nat):g112 (j+300) 0=some ((false,false,[],0,()),(),()):=by kernel_rfl
theorem quu (j:Nat):g112 (j+300) oneF=some ((false,false,[1],0,()),(),()):=by kernel_rfl
theorem qvg (j:Nat):(combP.map fun c=>g44 (j+300) (eN c.1 c.2 oneF))=combP.map fun c=>some (oneF,(),()):=by kernel_rfl
theorem qt4 (j:Nat):g45 (j+300) oneF=some (1,(),()):=by kernel_rfl
theorem qt0 (j:Nat):g45 (j+300) 0=some (0,(),()):=by kernel_rfl
theorem qu9 (j:Nat):g47 (j+300) oneF=some (true,(),()):=by kernel_rfl
theorem qu4 (j:Nat):(combP.map fun c=>g46 (j+300) (eN c.1 c.2 oneF) oneF)=combP.map fun c=>some ((eN c.1 c.2 oneF,true,()),(),(),()):=by kernel_rfl
theorem qua (j:Nat):(combP.map fun c=>g105 (j+300) (eN c.1 c.2 oneF))=combP.map fun c=>some (true,(),()):=by kernel_rfl
theorem qub (j:Nat):(combP.map fun c=>g197 (j+300) (eN c.1 c.2 oneF) ((c.1:Nat):Int))=combP.map fun c=>some (0,(),(),()):=by kernel_rfl
theorem qtw (j:Nat):(combP.map fun c=>g199 (j+300) (List.replicate (c.1+1) 0) [] [] (eN c.1 c.2 oneF))=combP.map fun c=>some ((eN c.1 c.2 oneF,0,()),(),(),(),(),()):=by kernel_rfl
theorem quf (j:Nat):(combP.map fun c=>g44 (j+300) (List.replicate c.1 0))=combP.map fun c=>some (0,(),()):=by kernel_rfl
end Go.Vs.F
